/- What functions of the program compute; plain lemmas on it. Conditions: none. -/
import Derived.Test.YtnjmojacdkjfoaaProg
import Derived.Test.YtnjmojacdkjfoaaSyBB
namespace Go.Proofs.Ytnjmojacdkjfoaa.BeaconOwn
open Go Go.Sx
set_option maxRecDepth 100000
set_option maxHeartbeats 4000000
set_option linter.unusedVariables false
set_option linter.unusedSimpArgs false
variable {E:Mem} {K:SV->Mem->Prop}
variable {E:Mem} {n cap tot l c i t e off j p w o:Nat} {f:FuncId} {bx:List Box} {u d a1 a lo v hi m e1:Int} {Q KK:KT} {zs out:List Int} {b:Option Addr} {us restv:List Value} {x y:Value} {row:Row} {rest:List SV} {s0:Int×Int}
abbrev WI (x:Int):Int:=IntKind.wrap .i64 x
abbrev NI (n:Nat):Int:=(n:Int)
abbrev U8 (x:Int):Value:=.int .u8 x
abbrev VS (b:Option Addr) (l c:Nat):Value:=.slice b l c
abbrev no2 (t:List (Option SV)):List (Option SV):=none::none::t
abbrev no4 (t:List (Option SV)):List (Option SV):=none::none::none::none::t
abbrev no8 (t:List (Option SV)):List (Option SV):=none::none::none::none::none::none::none::none::t
abbrev no16 (t:List (Option SV)):List (Option SV):=none::none::none::none::none::none::none::none::none::none::none::none::none::none::none::none::t
abbrev no32 (t:List (Option SV)):List (Option SV):=none::none::none::none::none::none::none::none::none::none::none::none::none::none::none::none::none::none::none::none::none::none::none::none::none::none::none::none::none::none::none::none::t
abbrev oI (x:Int):Option SV:=some (.raw (.int .i64 x))
abbrev oB (x:Bool):Option SV:=some (.raw (.bool x))
abbrev oL (b:Option Addr) (l c:Nat):Option SV:=some (.raw (.slice b l c))
abbrev oc (b o:Nat):Option SV:=some (.loc b o)
abbrev os (b o l c:Nat):Option SV:=some (.slc b o l c)
abbrev oU:Option SV:=some (.raw (.tuple #[]))
abbrev al2:AlikeT:=.n .l .l
theorem mr_:Mem.le E E:=Mem.le_refl E
theorem mt_ {F G:Mem} (h:Mem.le E F) (k:Mem.le F G):Mem.le E G:=Mem.le_trans h k
theorem sm_ {p q:Prop} (h:q) (e:p=q:=by kernel_rfl):p:=e.mpr h
theorem esm {C:Cx} (hC:CxOK C) {fn:Func} (hf:C.P.funcs[f]? =some fn) {args:List SV} {vs:List Value} {K:SV->Mem->Prop}
  (hv:SV.valL args=some vs) (h:Ent C n fn args E K) (hok:okFn fn:=by exact ⟨by kernel_rfl,by kernel_rfl⟩) (ho:C.opt.om=none:=by rfl):TabSem C.P f args E K:=Ent.sem hC hf hok hv h ho
theorem bsm {C:Cx} (hC:CxOK C) {fn:Func} (hf:C.P.funcs[f]? =some fn) {args:List SV} {K:KT}
  (h:EntB C n fn args bx E K) (hok:okFn fn:=by exact ⟨by kernel_rfl,by kernel_rfl⟩) (ho:C.opt.om=none:=by rfl):CallSem C.P f args bx E K:=EntB.sem hC hf hok h ho
def nodB:List Nat->Bool
 | []=>true
 | x::l=> !l.contains x&&nodB l
theorem nodB_ok:∀ {l:List Nat},nodB l=true->l.Nodup
 | [],_=>List.nodup_nil
 | x::l,h=>by
  simp only [nodB,Bool.and_eq_true,Bool.not_eq_true',List.contains_eq_mem,decide_eq_false_iff_not] at h
  exact List.nodup_cons.2 ⟨h.1,nodB_ok h.2⟩
theorem wkG {n0:Nat} {τ:Tau} {S T:St} (hE:Mem.le T.E S.E) (h1:n0<=S.bx.length:=by first|(simp;done)|(simp [St.pub];done)) (h2:n0<=τ.length:=by first|(simp;done)|(simp [St.pub];done))
  (h3:∀ j,j<n0->τ[j]? =some (some j):=by decide) (h4:T.bx.length=τ.length:=by rfl)
  (h5:wkFr τ S.bx.length S.fr T.fr:=by repeat' first|exact True.intro|refine And.intro (Or.inl rfl) ?_|refine And.intro (Or.inr ⟨rfl,rfl⟩) ?_)
  (h6:wkBx τ S.bx.length S.bx 0 T.bx:=by repeat' first|exact True.intro|exact rfl|exact Or.inl rfl|fail|refine And.intro ?_ ?_)
  (h7:nodB (liveSrc τ T.bx)=true:=by kernel_rfl):S.wk n0 τ T:=⟨⟨h1,h2,h3⟩,h4,h5,h6,nodB_ok h7,hE⟩
theorem wkH {n0:Nat} {τ:Tau} {S T:St} (hE:Mem.le T.E S.E) (h1:n0<=S.bx.length:=by first|(simp;done)|(simp [St.pub];done)) (h2:n0<=τ.length:=by first|(simp;done)|(simp [St.pub];done))
  (h3:∀ j,j<n0->τ[j]? =some (some j):=by decide) (h4:T.bx.length=τ.length:=by rfl)
  (h5:wkFr τ S.bx.length S.fr T.fr:=by repeat' first|exact True.intro|refine And.intro (Or.inl rfl) ?_|refine And.intro (Or.inr ⟨rfl,rfl⟩) ?_)
  (h6:wkBx τ S.bx.length S.bx 0 T.bx:=by repeat' first|exact True.intro|exact rfl|exact Or.inl rfl|exact Or.inr ⟨rfl,rfl⟩|refine And.intro ?_ ?_|exact Nat.le_of_ble_eq_true rfl)
  (h7:nodB (liveSrc τ T.bx)=true:=by kernel_rfl):S.wk n0 τ T:=⟨⟨h1,h2,h3⟩,h4,h5,h6,nodB_ok h7,hE⟩
theorem condC {c:Bool} {p q:Prop} (h1:c=true->p) (h0:c=false->q):bif c then p else q:=by cases c;exact h0 rfl;exact h1 rfl
def zig (n:Int):Int:=if n<0 then -2*n-1 else 2*n
def digF:Nat->Int->List Int
 | 0,u=>[u]
 | k+1,u=>if u<128 then [u] else (u % 128+128)::digF k (u / 128)
def dig (u:Int):List Int:=digF 9 u
abbrev vB (l:List Int):List Value:=l.map (.int .u8)
abbrev deadB:Box:=⟨5,.lst [],0,false⟩
noncomputable def W0:Cx:={ P:=Try.prog,inl:=fun f=>List.contains [82,83,81] f,tab:=fun _ _ _ _=>False,isB:=fun _=>false,tabB:=fun _ _ _ _ _=>False,opt:={ unroll:=1,carry:=[0,1] },muts:=mutsD }
theorem okW0:CxOK W0:=CxOK.four (fun _ _ _ _ h=>h.elim) (by kernel_rfl) (okInl (by kernel_rfl)) (fun _ _ _ _ _ h=>h.elim)
theorem s31 {n:Int} (hn: -10000000000000<=n/\n<=10000000000000) (h:K (I (zig n)) E):Ent W0 6 Try.f80 [I n] E K:=by
 refine sm_ (?_:bif decide (n<(0:Int)) then Mem.le E E/\K (I (WI (WI ((-2:Int)*n)-(1:Int)))) E else Mem.le E E/\K (I (WI ((2:Int)*n))) E)
 delta WI
 unfold zig at h
 refine condC (fun h1=>?_) (fun h1=>?_)
 ·rw [if_pos (by simpa using h1)] at h
  rw [wrap_i64 (x:= -2*n) (by omega),wrap_i64 (by omega)]
  exact ⟨mr_,h⟩
 ·rw [if_neg (by simpa using h1)] at h
  rw [wrap_i64 (by omega)]
  exact ⟨mr_,h⟩
theorem digF_eq:∀ (k k':Nat) (u:Int),0<=u->u<128 ^ (k+1)->u<128 ^ (k'+1)->digF k u=digF k' u
 | 0,0,_,_,_,_=>rfl
 | 0,k+1,u,_,h,_=>by simp only [digF];rw [if_pos (by simpa using h)]
 | k+1,0,u,_,_,h=>by simp only [digF];rw [if_pos (by simpa using h)]
 | k+1,k'+1,u,h0,h1,h2=>by
  simp only [digF]
  by_cases h:u<128
  ·rw [if_pos h,if_pos h]
  ·rw [if_neg h,if_neg h,digF_eq k k' (u / 128) (by omega) (by rw [Int.pow_succ] at h1;omega) (by rw [Int.pow_succ] at h2;omega)]
theorem dig_last (h:u<128):dig u=[u]:=by unfold dig digF;rw [if_pos h]
theorem dig_step (h:¬ u<128) (h1:u<1152921504606846976):dig u=(u % 128+128)::dig (u / 128):=by
 unfold dig
 rw [show digF 9 u=(u % 128+128)::digF 8 (u / 128) from by unfold digF;rw [if_neg h];rfl]
 rw [digF_eq 8 9 (u / 128) (by omega) (by simp;omega) (by simp;omega)]
theorem digF_len:∀ (k:Nat) (u:Int),1<=(digF k u).length/\(digF k u).length<=k+1
 | 0,u=>by simp [digF]
 | k+1,u=>by
  have:=digF_len k (u / 128)
  simp only [digF]
  split
  ·simp
  ·simp;omega
theorem digF_byte:∀ (k:Nat) (u:Int),0<=u->u<128 ^ (k+1)->∀ z∈digF k u,0<=z/\z<=255
 | 0,u,h0,h1,z,hz=>by simp only [digF,List.mem_singleton] at hz;subst hz;simp at h1;omega
 | k+1,u,h0,h1,z,hz=>by
  simp only [digF] at hz
  split at hz
  ·simp only [List.mem_singleton] at hz;subst hz;omega
  ·rcases List.mem_cons.1 hz with rfl|hz
   ·omega
   ·exact digF_byte k (u / 128) (by omega) (by rw [Int.pow_succ] at h1;omega) z hz
theorem dig_byte (h0:0<=u) (h1:u<1152921504606846976):∀ z∈dig u,0<=z/\z<=255:=digF_byte 9 u h0 (by simp;omega)
theorem dig_len (u:Int):1<=(dig u).length/\(dig u).length<=10:=digF_len 9 u
theorem wu8 {x:Int} (h:0<=x/\x<=255):IntKind.wrap .u8 x=x:=by
 rw [show IntKind.wrap .u8 x=x % 256 from rfl];omega
theorem byteW (h0:0<=u):IntKind.wrap .u8 (IntKind.wrap .i64 (Int.tmod u 128+128))=u % 128+128:=by
 rw [Int.tmod_eq_emod_of_nonneg h0,wrap_i64 (by omega),wu8 (by omega)]
theorem fdivW:Int.fdiv u 128=u / 128:=Int.fdiv_eq_ediv_of_nonneg _ (by omega)
def sh29 (u:Int) (m cap tot:Nat) (l:List Int) (E:Mem):St:=⟨[os 1 0 m cap,oI u]++List.replicate 19 none,[deadB,⟨5,.vals (vB l),tot,true⟩],E⟩
structure P29 (full l:List Int) (m cap tot:Nat) (u:Int):Prop where
 u0:0<=u
 u1:u<1152921504606846976
 len:l.length=m
 mc:m<=cap
 ct:cap<=tot
 full:l++dig u=full
theorem rnd29 {full l:List Int} {m:Nat} (hP:P29 full l m cap tot u) (hf:full.length<=1000010)
  (hQ:∀ cap' tot':Nat,full.length<=cap'->cap'<=tot'->∀ x:SV,Q (.slc 3 0 full.length cap') [deadB,deadB,⟨5,.lst [x],1,true⟩,⟨5,.vals (vB full),tot',true⟩] E)
  (ih:∀ (l:List Int) (m cap tot:Nat) (u':Int),u'<u->P29 full l m cap tot u'->Lp W0 6 Try.f79 [1,0,0] 1 Q (sh29 u' m cap tot l E)):Rnd W0 6 Try.f79 [1,0,0] 1 Q (sh29 u m cap tot l E):=by
 obtain ⟨h0,h1,hlen,hmc,hct,hfull⟩:=hP
 refine sm_ (?_:bif decide (u>=(128:Int)) then ((128:Int)=(0:Int)->False)/\m*1<=List.length (Row.cells (Row.vals (vB l)))/\cap*1<=tot/\m<=cap/\req ((m+1)*1<=140737488355328) (∀ (cap' tot':Nat),m+1<=cap'->cap'*1<=tot'->Lp W0 6 Try.f79 [1,0,0] 1 Q { fr:=some (SV.slc 3 0 (m+1) cap')::oI (Int.fdiv u 128)::no16 (no2 (none::[])),bx:=[(⟨5,.lst [],0,false⟩:Box),⟨5,.lst [],0,false⟩,⟨5,.lst [SV.raw (U8 (IntKind.wrap IntKind.u8 (WI (Int.tmod u (128:Int)+(128:Int)))))],1,true⟩,⟨5,.vals (List.take (m*1) (vB l)++[U8 (IntKind.wrap IntKind.u8 (WI (Int.tmod u (128:Int)+(128:Int))))]),tot',true⟩],E:=E:St }) else m*1<=List.length (Row.cells (Row.vals (vB l)))/\cap*1<=tot/\m<=cap/\req ((m+1)*1<=140737488355328) (∀ (cap' tot':Nat),m+1<=cap'->cap'*1<=tot'->Q (SV.slc 3 0 (m+1) cap') [⟨5,.lst [],0,false⟩,⟨5,.lst [],0,false⟩,⟨5,.lst [SV.raw (U8 (IntKind.wrap IntKind.u8 u))],1,true⟩,⟨5,.vals (List.take (m*1) (vB l)++[U8 (IntKind.wrap IntKind.u8 u)]),tot',true⟩] E))
 delta WI U8 no2 no16
 have hl:(Row.cells (Row.vals (vB l))).length=m:=by simp [Row.cells,hlen]
 have hlf:l.length+(dig u).length=full.length:=by rw [← hfull];simp
 have hdl:=dig_len u
 have htk:List.take (m*1) (vB l)=vB l:=List.take_of_length_le (by simp [hlen])
 refine condC (fun hu=>?_) (fun hu=>?_)
 ·have hu:128<=u:=by simpa using hu
  refine ⟨by omega,by omega,by omega,hmc,req_intro (by omega) ?_⟩
  intro cap' tot' g1 g2
  have hst:=dig_step (show ¬ u<128 by omega) h1
  rw [byteW h0,fdivW,htk,← List.map_singleton (f:=Value.int .u8),← List.map_append]
  exact Lp_re [some 0,some 3] (ih (l++[u % 128+128]) (m+1) cap' tot' (u / 128) (by omega) ⟨by omega,by omega,by simp [hlen],g1,by omega,by rw [← hfull,hst];simp⟩) ⟨⟨by simp,by simp,fun j h=>(by have e:j=0:=(by omega);subst e;rfl)⟩,rfl,(by repeat' first|exact True.intro|refine And.intro (Or.inl rfl) ?_),(by repeat' first|exact True.intro|exact rfl|exact Or.inl rfl|exact Nat.succ_pos _|refine And.intro ?_ ?_),(List.pairwise_singleton _ _),mr_⟩
 ·have hu:u<128:=by simpa using hu
  have hst:=dig_last hu
  refine ⟨by omega,by omega,hmc,req_intro (by omega) ?_⟩
  intro cap' tot' g1 g2
  rw [hst] at hfull hlf
  have e:m+1=full.length:=by simp at hlf;omega
  rw [wu8 (by omega),htk,← List.map_singleton (f:=Value.int .u8),← List.map_append,hfull,e]
  exact hQ cap' tot' (by omega) (by omega) _
theorem b29 {l:List Int} (hn:l.length=n) (hnc:n<=cap) (hct:cap<=tot) (hsz:n<=1000000) (h0:0<=u) (h1:u<1152921504606846976)
  (hQ:∀ s bx,(∃ cap' tot':Nat,n+(dig u).length<=cap'/\cap'<=tot'/\∃ τ,St.wk 1 τ ⟨[some s],bx,E⟩ ⟨[os 1 0 (n+(dig u).length) cap'],[deadB,⟨5,.vals (vB (l++dig u)),tot',true⟩],E⟩)->Q s bx E):
  EntB W0 6 Try.f79 [.slc 0 0 n cap,I u] [⟨5,.vals (vB l),tot,true⟩] E Q:=by
 refine sm_ (?_:bif decide (u>=(128:Int)) then ((128:Int)=(0:Int)->False)/\n*1<=List.length (Row.cells (Row.vals (vB l)))/\cap*1<=tot/\n<=cap/\req ((n+1)*1<=140737488355328) (∀ (cap' tot':Nat),n+1<=cap'->cap'*1<=tot'->Lp W0 6 Try.f79 [1,0,0] 1 Q { fr:=some (SV.slc 2 0 (n+1) cap')::oI (Int.fdiv u 128)::none::none::oL none 0 0::no16 [],bx:=[(⟨5,.lst [],0,false⟩:Box),⟨5,.lst [SV.raw (U8 (IntKind.wrap IntKind.u8 (WI (Int.tmod u (128:Int)+(128:Int)))))],1,true⟩,⟨5,.vals (List.take (n*1) (vB l)++[U8 (IntKind.wrap IntKind.u8 (WI (Int.tmod u (128:Int)+(128:Int))))]),tot',true⟩],E:=E:St }) else n*1<=List.length (Row.cells (Row.vals (vB l)))/\cap*1<=tot/\n<=cap/\req ((n+1)*1<=140737488355328) (∀ (cap' tot':Nat),n+1<=cap'->cap'*1<=tot'->Q (SV.slc 2 0 (n+1) cap') [⟨5,.lst [],0,false⟩,⟨5,.lst [SV.raw (U8 (IntKind.wrap IntKind.u8 u))],1,true⟩,⟨5,.vals (List.take (n*1) (vB l)++[U8 (IntKind.wrap IntKind.u8 u)]),tot',true⟩] E))
 delta WI U8 no16
 have hl:(Row.cells (Row.vals (vB l))).length=n:=by simp [Row.cells,hn]
 have hdl:=dig_len u
 have htk:List.take (n*1) (vB l)=vB l:=List.take_of_length_le (by simp [hn])
 refine condC (fun hu=>?_) (fun hu=>?_)
 ·have hu:128<=u:=by simpa using hu
  refine ⟨by omega,by omega,by omega,hnc,req_intro (by omega) ?_⟩
  intro cap' tot' g1 g2
  have hst:=dig_step (show ¬ u<128 by omega) h1
  rw [byteW h0,fdivW,htk,← List.map_singleton (f:=Value.int .u8),← List.map_append]
  have key:=Lp_ind okW0 (n:=6) (fn:=Try.f79) (p:=[1,0,0]) (n0:=1) (K:=Q) (fun x:{x:Int×Nat×Nat×Nat×List Int//P29 (l++dig u) x.2.2.2.2 x.2.1 x.2.2.1 x.2.2.2.1 x.1}=>sh29 x.1.1 x.1.2.1 x.1.2.2.1 x.1.2.2.2.1 x.1.2.2.2.2 E) (fun x=>x.1.1.toNat) (by
   rintro ⟨⟨u',m,c,t,l'⟩,hP⟩ ih
   refine rnd29 hP (by simp;omega) ?_ (fun l2 m2 c2 t2 u2 hlt hP2=>ih ⟨⟨u2,m2,c2,t2,l2⟩,hP2⟩ ?_)
   ·intro cap' tot' g1 g2 x
    refine hQ _ _ ⟨cap',tot',by simpa [hn] using g1,g2,[some 0,some 3],?_⟩
    rw [show (l++dig u).length=n+(dig u).length by simp [hn]]
    exact ⟨⟨by simp,by simp,fun j h=>(by have e:j=0:=(by omega);subst e;rfl)⟩,rfl,(by repeat' first|exact True.intro|refine And.intro (Or.inl rfl) ?_),(by repeat' first|exact True.intro|exact rfl|exact Or.inl rfl|exact Nat.succ_pos _|refine And.intro ?_ ?_),(List.pairwise_singleton _ _),mr_⟩
   ·have h0':0<=u2:=hP2.u0
    have hlt':u2<u':=hlt
    show u2.toNat<u'.toNat
    omega)
  exact Lp_re [some 0,some 2] (key ⟨⟨u / 128,n+1,cap',tot',l++[u % 128+128]⟩,⟨by show 0<=u / 128;omega,by show u / 128<_;omega,by simp [hn],g1,by show cap'<=tot';omega,by rw [hst];simp⟩⟩) ⟨⟨by simp,by simp,fun j h=>(by have e:j=0:=(by omega);subst e;rfl)⟩,rfl,(by repeat' first|exact True.intro|refine And.intro (Or.inl rfl) ?_),(by repeat' first|exact True.intro|exact rfl|exact Or.inl rfl|exact Nat.succ_pos _|refine And.intro ?_ ?_),(List.pairwise_singleton _ _),mr_⟩
 ·have hu:u<128:=by simpa using hu
  have hst:=dig_last hu
  refine ⟨by omega,by omega,hnc,req_intro (by omega) ?_⟩
  intro cap' tot' g1 g2
  rw [wu8 (by omega),htk,← List.map_singleton (f:=Value.int .u8),← List.map_append]
  rw [hst] at hQ
  exact hQ _ _ ⟨cap',tot',g1,by omega,[some 0,some 2],⟨⟨by simp,by simp,fun j h=>(by have e:j=0:=(by omega);subst e;rfl)⟩,rfl,(by repeat' first|exact True.intro|refine And.intro (Or.inl rfl) ?_),(by repeat' first|exact True.intro|exact rfl|exact Or.inl rfl|exact Nat.succ_pos _|refine And.intro ?_ ?_),(List.pairwise_singleton _ _),mr_⟩⟩
def sh29n (u:Int) (m cap tot:Nat) (l:List Int) (E:Mem):St:=⟨[os 0 0 m cap,oI u]++List.replicate 19 none,[⟨5,.vals (vB l),tot,true⟩],E⟩
theorem rnd29n {full l:List Int} {m:Nat} (hP:P29 full l m cap tot u) (hf:full.length<=1000010)
  (hQ:∀ cap' tot':Nat,full.length<=cap'->cap'<=tot'->∀ x:SV,Q (.slc 2 0 full.length cap') [deadB,⟨5,.lst [x],1,true⟩,⟨5,.vals (vB full),tot',true⟩] E)
  (ih:∀ (l:List Int) (m cap tot:Nat) (u':Int),u'<u->P29 full l m cap tot u'->Lp W0 6 Try.f79 [1,0,0] 0 Q (sh29n u' m cap tot l E)):Rnd W0 6 Try.f79 [1,0,0] 0 Q (sh29n u m cap tot l E):=by
 obtain ⟨h0,h1,hlen,hmc,hct,hfull⟩:=hP
 refine sm_ (?_:bif decide (u>=(128:Int)) then ((128:Int)=(0:Int)->False)/\m*1<=List.length (Row.cells (Row.vals (vB l)))/\cap*1<=tot/\m<=cap/\req ((m+1)*1<=140737488355328) (∀ (cap' tot':Nat),m+1<=cap'->cap'*1<=tot'->Lp W0 6 Try.f79 [1,0,0] 0 Q { fr:=some (SV.slc 2 0 (m+1) cap')::oI (Int.fdiv u 128)::no16 (no2 (none::[])),bx:=[(⟨5,.lst [],0,false⟩:Box),⟨5,.lst [SV.raw (U8 (IntKind.wrap IntKind.u8 (WI (Int.tmod u (128:Int)+(128:Int)))))],1,true⟩,⟨5,.vals (List.take (m*1) (vB l)++[U8 (IntKind.wrap IntKind.u8 (WI (Int.tmod u (128:Int)+(128:Int))))]),tot',true⟩],E:=E:St }) else m*1<=List.length (Row.cells (Row.vals (vB l)))/\cap*1<=tot/\m<=cap/\req ((m+1)*1<=140737488355328) (∀ (cap' tot':Nat),m+1<=cap'->cap'*1<=tot'->Q (SV.slc 2 0 (m+1) cap') [⟨5,.lst [],0,false⟩,⟨5,.lst [SV.raw (U8 (IntKind.wrap IntKind.u8 u))],1,true⟩,⟨5,.vals (List.take (m*1) (vB l)++[U8 (IntKind.wrap IntKind.u8 u)]),tot',true⟩] E))
 delta WI U8 no2 no16
 have hl:(Row.cells (Row.vals (vB l))).length=m:=by simp [Row.cells,hlen]
 have hlf:l.length+(dig u).length=full.length:=by rw [← hfull];simp
 have hdl:=dig_len u
 have htk:List.take (m*1) (vB l)=vB l:=List.take_of_length_le (by simp [hlen])
 refine condC (fun hu=>?_) (fun hu=>?_)
 ·have hu:128<=u:=by simpa using hu
  refine ⟨by omega,by omega,by omega,hmc,req_intro (by omega) ?_⟩
  intro cap' tot' g1 g2
  have hst:=dig_step (show ¬ u<128 by omega) h1
  rw [byteW h0,fdivW,htk,← List.map_singleton (f:=Value.int .u8),← List.map_append]
  exact Lp_re [some 2] (ih (l++[u % 128+128]) (m+1) cap' tot' (u / 128) (by omega) ⟨by omega,by omega,by simp [hlen],g1,by omega,by rw [← hfull,hst];simp⟩) ⟨⟨by simp,by simp,fun j h=>absurd h (Nat.not_lt_zero _)⟩,rfl,(by repeat' first|exact True.intro|refine And.intro (Or.inl rfl) ?_),(by repeat' first|exact True.intro|exact rfl|exact Or.inl rfl|exact Nat.succ_pos _|refine And.intro ?_ ?_),(List.pairwise_singleton _ _),mr_⟩
 ·have hu:u<128:=by simpa using hu
  have hst:=dig_last hu
  refine ⟨by omega,by omega,hmc,req_intro (by omega) ?_⟩
  intro cap' tot' g1 g2
  rw [hst] at hfull hlf
  have e:m+1=full.length:=by simp at hlf;omega
  rw [wu8 (by omega),htk,← List.map_singleton (f:=Value.int .u8),← List.map_append,hfull,e]
  exact hQ cap' tot' (by omega) (by omega) _
theorem b29n (h0:0<=u) (h1:u<1152921504606846976)
  (hQ:∀ s bx,(∃ cap' tot':Nat,(dig u).length<=cap'/\cap'<=tot'/\∃ τ,St.wk 0 τ ⟨[some s],bx,E⟩ ⟨[os 0 0 (dig u).length cap'],[⟨5,.vals (vB (dig u)),tot',true⟩],E⟩)->Q s bx E):
  EntB W0 6 Try.f79 [.raw (.slice none 0 0),I u] [] E Q:=by
 refine sm_ (?_:bif decide (u>=(128:Int)) then ((128:Int)=(0:Int)->False)/\∀ (cap' tot':Nat),1<=cap'->cap'*1<=tot'->Lp W0 6 Try.f79 [1,0,0] 0 Q { fr:=some (SV.slc 1 0 1 cap')::oI (Int.fdiv u 128)::none::none::oL none 0 0::no16 [],bx:=[(⟨5,.lst [SV.raw (U8 (IntKind.wrap IntKind.u8 (WI (Int.tmod u (128:Int)+(128:Int)))))],1,true⟩:Box),⟨5,.lst [SV.raw (U8 (IntKind.wrap IntKind.u8 (WI (Int.tmod u (128:Int)+(128:Int)))))],tot',true⟩],E:=E:St } else ∀ (cap' tot':Nat),1<=cap'->cap'*1<=tot'->Q (SV.slc 1 0 1 cap') [⟨5,.lst [SV.raw (U8 (IntKind.wrap IntKind.u8 u))],1,true⟩,⟨5,.lst [SV.raw (U8 (IntKind.wrap IntKind.u8 u))],tot',true⟩] E)
 delta WI U8 no16
 have hdl:=dig_len u
 refine condC (fun hu=>?_) (fun hu=>?_)
 ·have hu:128<=u:=by simpa using hu
  refine ⟨by omega,?_⟩
  intro cap' tot' g1 g2
  have hst:=dig_step (show ¬ u<128 by omega) h1
  rw [byteW h0,fdivW]
  have key:=Lp_ind okW0 (n:=6) (fn:=Try.f79) (p:=[1,0,0]) (n0:=0) (K:=Q) (fun x:{x:Int×Nat×Nat×Nat×List Int//P29 (dig u) x.2.2.2.2 x.2.1 x.2.2.1 x.2.2.2.1 x.1}=>sh29n x.1.1 x.1.2.1 x.1.2.2.1 x.1.2.2.2.1 x.1.2.2.2.2 E) (fun x=>x.1.1.toNat) (by
   rintro ⟨⟨u',m,c,t,l'⟩,hP⟩ ih
   refine rnd29n hP (by omega) ?_ (fun l2 m2 c2 t2 u2 hlt hP2=>ih ⟨⟨u2,m2,c2,t2,l2⟩,hP2⟩ ?_)
   ·intro cap' tot' g1 g2 x
    exact hQ _ _ ⟨cap',tot',g1,g2,[some 2],⟨⟨by simp,by simp,fun j h=>absurd h (Nat.not_lt_zero _)⟩,rfl,(by repeat' first|exact True.intro|refine And.intro (Or.inl rfl) ?_),(by repeat' first|exact True.intro|exact rfl|exact Or.inl rfl|exact Nat.succ_pos _|refine And.intro ?_ ?_),(List.pairwise_singleton _ _),mr_⟩⟩
   ·have h0':0<=u2:=hP2.u0
    have hlt':u2<u':=hlt
    show u2.toNat<u'.toNat
    omega)
  exact Lp_re [some 1] (key ⟨⟨u / 128,1,cap',tot',[u % 128+128]⟩,⟨by show 0<=u / 128;omega,by show u / 128<_;omega,rfl,g1,by show cap'<=tot';omega,by rw [hst];rfl⟩⟩) ⟨⟨by simp,by simp,fun j h=>absurd h (Nat.not_lt_zero _)⟩,rfl,(by repeat' first|exact True.intro|refine And.intro (Or.inl rfl) ?_),(by repeat' first|exact True.intro|exact rfl|exact Or.inl rfl|exact Nat.succ_pos _|refine And.intro ?_ ?_),(List.pairwise_singleton _ _),mr_⟩
 ·have hu:u<128:=by simpa using hu
  have hst:=dig_last hu
  intro cap' tot' g1 g2
  rw [wu8 (by omega)]
  rw [hst] at hQ
  exact hQ _ _ ⟨cap',tot',g1,by omega,[some 1],⟨⟨by simp,by simp,fun j h=>absurd h (Nat.not_lt_zero _)⟩,rfl,(by repeat' first|exact True.intro|refine And.intro (Or.inl rfl) ?_),(by repeat' first|exact True.intro|exact rfl|exact Or.inl rfl|exact Nat.succ_pos _|refine And.intro ?_ ?_),(List.pairwise_singleton _ _),mr_⟩⟩
noncomputable def tab1:FuncId->List SV->Mem->(SV->Mem->Prop)->Prop:=fun f args E K=>match f with
 | 80=>d1 args fun x0=>dI x0 fun a1=>(-10000000000000<=a1/\a1<=10000000000000)/\(K (I (zig a1)) E)
 | _=>False
theorem tab1_ok:TabOK Try.prog tab1:=by
 intro f args E K h
 unfold tab1 at h
 split at h
 ·replace h:=d1_elim h
  obtain ⟨x0,rfl,h⟩:=h
  replace h:=dI_elim h
  obtain ⟨a1,rfl,h⟩:=h
  obtain ⟨g0,h⟩:=h
  exact TabSem.congr (valL_cons rfl rfl) (esm okW0 Try.func80 rfl (s31 g0 h))
 ·exact h.elim
noncomputable def tabB1:CallT:=fun f args bx E K=>match f with
 | 79=>d2 args fun x0 x1=>dI x1 fun u=>(0<=u/\u<1152921504606846976)/\(match x0 with
  | .raw (.slice none 0 0)=>∀ cap' tot':Nat,(dig u).length<=cap'->cap'<=tot'->K (.slc bx.length 0 (dig u).length cap') (bx++[⟨5,.vals (vB (dig u)),tot',true⟩]) E
  | .slc b 0 n cap=>match bx[b]? with
   | some ⟨e,.vals vs,tot,true⟩=>∃ l:List Int,(e=5/\vs=vB l/\l.length=n/\n<=cap/\cap<=tot/\n<=1000000)/\
     ∀ cap' tot':Nat,n+(dig u).length<=cap'->cap'<=tot'->K (.slc bx.length 0 (n+(dig u).length) cap') (bx.set b deadB++[⟨5,.vals (vB (l++dig u)),tot',true⟩]) E
   | _=>False
  | _=>False)
 | _=>False
theorem tabB1_ok:∀ f args bx E K,tabB1 f args bx E K->CallSem Try.prog f args bx E K:=by
 intro f args bx E K h
 unfold tabB1 at h
 split at h
 case h_2=>exact h.elim
 obtain ⟨x0,x1,rfl,h⟩:=d2_elim h
 obtain ⟨u,rfl,h⟩:=dI_elim h
 obtain ⟨⟨h0,h1⟩,h⟩:=h
 split at h
 ·refine CallSem.own0 (argv:=[.slice none 0 0,.int .i64 u]) rfl (bsm okW0 Try.func79 (b29n h0 h1 ?_))
  rintro s bx' ⟨cap',tot',g1,g2,τ,hw⟩
  exact cloK_intro τ ⟨_,cap',5,_,tot',rfl,rfl,h cap' tot' g1 g2⟩ hw
 ·rename_i b n cap
  split at h
  case h_2=>exact h.elim
  rename_i e vs tot hb
  obtain ⟨l,⟨rfl,rfl,hl,hnc,hct,hsz⟩,h⟩:=h
  refine CallSem.own1 (rest:=[I u]) (restv:=[.int .i64 u]) hb rfl (bsm okW0 Try.func79 (b29 hl hnc hct hsz h0 h1 ?_))
  rintro s bx' ⟨cap',tot',g1,g2,τ,hw⟩
  exact cloK_intro τ ⟨_,cap',_,tot',rfl,rfl,h cap' tot' g1 g2⟩ hw
 ·exact h.elim
def okN (n:Int):Prop:= -10000000000000<=n/\n<=10000000000000
instance (n:Int):Decidable (okN n):=inferInstanceAs (Decidable (_/\_))
def putN (zs:List Int) (n:Int):List Int×Int:=if okN n then (zs++dig (zig n),0) else ([],3)
theorem zig_b {n:Int} (h:okN n):0<=zig n/\zig n<1152921504606846976:=by
 unfold okN at h
 unfold zig
 split<;>omega
theorem mapB (zs xs:List Int):vB zs++vB xs=vB (zs++xs):=by simp
theorem app_byte {xs:List Int} (h:∀ z∈zs,0<=z/\z<=255) (h':∀ z∈xs,0<=z/\z<=255):∀ z∈zs++xs,0<=z/\z<=255:=by
 intro z hz
 rcases List.mem_append.1 hz with q|q
 ·exact h z q
 ·exact h' z q
theorem tkB (h:zs.length<=l):List.take (l*1) (vB zs)=vB zs:=List.take_of_length_le (by simp;omega)
theorem BsB (h:Bs E b l c zs):∀ z∈zs,0<=z/\z<=255:=h.2.2.2.1
theorem dig_len7 (n:Int):(dig n).length<=10:=(dig_len n).2
def unzig (v:Int):Int:=if v % 2=1 then -((v+1) / 2) else v / 2
def rdF (a:Int) (ws:List Int):Nat->Nat->Int->Int×Int×Int
 | 0,_,_=>(0,0,3)
 | k+1,i,u=>if ws.length<=i then (0,0,11) else
   if 128<=ws.getD i 0 then (if k=0 then (0,0,3) else rdF a ws k (i+1) (u+(ws.getD i 0-128)*128 ^ i))
   else if okN (unzig (u+ws.getD i 0*128 ^ i))/\(0<ws.getD i 0\/i=0) then (unzig (u+ws.getD i 0*128 ^ i),a+i+1,0) else (0,0,3)
def rd (zs:List Int) (a:Int):Int×Int×Int:=if a<0\/a>zs.length then (0,0,1) else rdF a (zs.drop a.toNat) 7 0 0
theorem or_add {u d s:Nat} (hu:u<2 ^ s) (h:u+d*2 ^ s<4611686018427387904):(BitVec.ofInt 64 (u:Int)|||BitVec.ofInt 64 ((d:Int)*2 ^ s)).toNat=u+d*2 ^ s:=by
 have hd:(d:Int)*2 ^ s=((d*2 ^ s:Nat):Int):=by simp
 rw [BitVec.toNat_or,hd,BitVec.ofInt_natCast,BitVec.ofInt_natCast,BitVec.toNat_ofNat,BitVec.toNat_ofNat,Nat.mod_eq_of_lt (by omega),Nat.mod_eq_of_lt (by omega)]
 rw [Nat.or_comm,Nat.mul_comm d,← Nat.two_pow_add_eq_or_of_lt hu]
 omega
theorem orW (hi:i<=6) (hu:0<=u/\u<128 ^ i) (hd:0<=d/\d<128):
  IntKind.wrap .i64 (((BitVec.ofInt (IntKind.bits .i64) u|||BitVec.ofInt (IntKind.bits .i64) (IntKind.wrap .i64 (d*2 ^ min (Int.toNat (IntKind.wrap .i64 (7*(i:Int)))) (IntKind.bits .i64)))).toNat:Nat):Int)=u+d*128 ^ i/\0<=u+d*128 ^ i/\u+d*128 ^ i<128 ^ (i+1):=by
 obtain ⟨u',rfl⟩:∃ k:Nat,u=k:=⟨u.toNat,by omega⟩
 obtain ⟨d',rfl⟩:∃ k:Nat,d=k:=⟨d.toNat,by omega⟩
 obtain ⟨h0,h1⟩:=hu
 obtain ⟨h2,h3⟩:=hd
 rw [show IntKind.bits .i64=64 from rfl]
 have key:∀ (s p:Nat),p=2 ^ s->s<=42->(u':Int)<p->IntKind.wrap .i64 (((BitVec.ofInt 64 (u':Int)|||BitVec.ofInt 64 (IntKind.wrap .i64 ((d':Int)*2 ^ min (Int.toNat (IntKind.wrap .i64 (s:Int))) 64))).toNat:Nat):Int)=u'+d'*p:=by
  intro s p hp hs h1
  have hp2:p<=4398046511104:=by rw [hp];have:=Nat.pow_le_pow_right (show 2>0 by omega) hs;simpa using this
  have hdp:d'*p<=127*4398046511104:=Nat.mul_le_mul (by omega) hp2
  have e1:min (Int.toNat (IntKind.wrap .i64 (s:Int))) 64=s:=by
   rw [wrap_i64 (by omega)];omega
  rw [e1]
  have e2:(d':Int)*2 ^ s=((d'*p:Nat):Int):=by rw [hp];simp
  have:=or_add (u:=u') (d:=d') (s:=s) (by rw [← hp];omega) (by rw [← hp];omega)
  rw [e2,wrap_i64 (x:=((d'*p:Nat):Int)) (by omega),← e2,this,← hp,wrap_i64 (by omega)]
  simp
 have hc:i=0\/i=1\/i=2\/i=3\/i=4\/i=5\/i=6:=by omega
 rcases hc with rfl|rfl|rfl|rfl|rfl|rfl|rfl
 ·exact ⟨(key 0 1 rfl (by omega) (by simpa using h1)).trans (by simp),by simp at h1 ⊢;omega,by simp at h1 ⊢;omega⟩
 ·exact ⟨(key 7 128 rfl (by omega) (by simpa using h1)).trans (by simp),by simp at h1 ⊢;omega,by simp at h1 ⊢;omega⟩
 ·exact ⟨(key 14 16384 rfl (by omega) (by simpa using h1)).trans (by simp),by simp at h1 ⊢;omega,by simp at h1 ⊢;omega⟩
 ·exact ⟨(key 21 2097152 rfl (by omega) (by simpa using h1)).trans (by simp),by simp at h1 ⊢;omega,by simp at h1 ⊢;omega⟩
 ·exact ⟨(key 28 268435456 rfl (by omega) (by simpa using h1)).trans (by simp),by simp at h1 ⊢;omega,by simp at h1 ⊢;omega⟩
 ·exact ⟨(key 35 34359738368 rfl (by omega) (by simpa using h1)).trans (by simp),by simp at h1 ⊢;omega,by simp at h1 ⊢;omega⟩
 ·exact ⟨(key 42 4398046511104 rfl (by omega) (by simpa using h1)).trans (by simp),by simp at h1 ⊢;omega,by simp at h1 ⊢;omega⟩
noncomputable def W8:Cx:={ P:=Try.prog,inl:=fun f=>List.contains [] f,tab:=fun _ _ _ _=>False,isB:=fun _=>false,tabB:=fun _ _ _ _ _=>False,opt:={ unroll:=0,carry:=[] },muts:=mutsD }
theorem okW8:CxOK W8:=CxOK.four (fun _ _ _ _ h=>h.elim) (by kernel_rfl) (okInl (by kernel_rfl)) (fun _ _ _ _ _ h=>h.elim)
theorem s35 (h0:(0<=a1/\a1<1152921504606846976)) (h:K (I (unzig a1)) E):
  Ent W8 6 Try.f81 [I a1] E K:=by
 refine sm_ (?_:((2:Int)=(0:Int)->False)/\bif Int.tmod a1 (2:Int)==(1:Int) then ((2:Int)=(0:Int)->False)/\Mem.le E E/\K (I (WI (Int.tdiv (WI ((0:Int)-WI (a1+(1:Int)))) 2))) E else ((2:Int)=(0:Int)->False)/\Mem.le E E/\K (I (WI (Int.tdiv a1 2))) E)
 delta WI
 obtain ⟨g0,g1⟩:=h0
 rw [Int.tmod_eq_emod_of_nonneg g0]
 unfold unzig at h
 refine ⟨by omega,condC (fun h1=>?_) (fun h1=>?_)⟩
 ·have h1:a1 % 2=1:=by simpa using h1
  rw [if_pos h1] at h
  rw [wrap_i64 (x:=a1+1) (by omega),wrap_i64 (x:=0-(a1+1)) (by omega),Int.zero_sub,Int.neg_tdiv,Int.tdiv_eq_ediv_of_nonneg (by omega),wrap_i64 (by omega)]
  exact ⟨by omega,mr_,h⟩
 ·have h1:¬ a1 % 2=1:=by simpa using h1
  rw [if_neg h1] at h
  rw [Int.tdiv_eq_ediv_of_nonneg (by omega),wrap_i64 (by omega)]
  exact ⟨by omega,mr_,h⟩
theorem s28 (h:K (B (decide (okN a1))) E):
  Ent W8 6 Try.f82 [I a1] E K:=by
 refine sm_ (?_:bif decide (a1>=(-10000000000000:Int)) then Mem.le E E/\K (B (bif true then decide (a1<=(10000000000000:Int)) else false)) E else Mem.le E E/\K (B false) E)
 unfold okN at h
 refine condC (fun h1=>?_) (fun h1=>?_)
 ·have h1: -10000000000000<=a1:=by simpa using h1
  exact ⟨mr_,by simpa [h1] using h⟩
 ·have h1:¬ -10000000000000<=a1:=by simpa using h1
  exact ⟨mr_,by simpa [h1] using h⟩
theorem s32 (h:K (B (decide (okN a1))) E):
  Ent W8 6 Try.f100 [I a1] E K:=by
 refine sm_ (?_:bif decide (a1>=(-10000000000000:Int)) then Mem.le E E/\K (B (bif true then decide (a1<=(10000000000000:Int)) else false)) E else Mem.le E E/\K (B false) E)
 unfold okN at h
 refine condC (fun h1=>?_) (fun h1=>?_)
 ·have h1: -10000000000000<=a1:=by simpa using h1
  exact ⟨mr_,by simpa [h1] using h⟩
 ·have h1:¬ -10000000000000<=a1:=by simpa using h1
  exact ⟨mr_,by simpa [h1] using h⟩
noncomputable def tab7:FuncId->List SV->Mem->(SV->Mem->Prop)->Prop:=fun f args E K=>match f with
 | 81=>d1 args fun x0=>dI x0 fun a1=>(0<=a1/\a1<1152921504606846976)/\(K (I (unzig a1)) E)
 | 82=>d1 args fun x0=>dI x0 fun a1=>(K (B (decide (okN a1))) E)
 | 100=>d1 args fun x0=>dI x0 fun a1=>(K (B (decide (okN a1))) E)
 | _=>False
theorem tab7_ok:TabOK Try.prog tab7:=by
 intro f args E K h
 unfold tab7 at h
 split at h
 ·replace h:=d1_elim h
  obtain ⟨x0,rfl,h⟩:=h
  replace h:=dI_elim h
  obtain ⟨a1,rfl,h⟩:=h
  obtain ⟨g0,h⟩:=h
  exact TabSem.congr (valL_cons rfl rfl) (esm okW8 Try.func81 rfl (s35 g0 h))
 ·replace h:=d1_elim h
  obtain ⟨x0,rfl,h⟩:=h
  replace h:=dI_elim h
  obtain ⟨a1,rfl,h⟩:=h
  exact TabSem.congr (valL_cons rfl rfl) (esm okW8 Try.func82 rfl (s28 h))
 ·replace h:=d1_elim h
  obtain ⟨x0,rfl,h⟩:=h
  replace h:=dI_elim h
  obtain ⟨a1,rfl,h⟩:=h
  exact TabSem.congr (valL_cons rfl rfl) (esm okW8 Try.func100 rfl (s32 h))
 ·exact h.elim
noncomputable def W7:Cx:={ P:=Try.prog,inl:=fun f=>List.contains [] f,tab:=tab7,isB:=fun _=>false,tabB:=fun _ _ _ _ _=>False,opt:={ unroll:=0,carry:=[7,23] },muts:=mutsD }
theorem okW7:CxOK W7:=CxOK.four tab7_ok (by kernel_rfl) (okInl (by kernel_rfl)) (fun _ _ _ _ _ h=>h.elim)
def sh15 (b:Option Addr) (l c:Nat) (a:Int) (b2:Option Addr) (l2 c2:Nat) (i:Nat) (u:Int) (E:Mem):St:={ fr:=[oL b l c,oI a,none,none,none,none,none,oI u,none,none,none,none,none,none,none,none,none,none,none,none,none,oL b2 l2 c2,oI l2,oI i,none,none,none,none,none,none,none,none,none,none,none,none,none,none,none,none,none,none,none,none,none,none,none,none,none,none,none,none,none,none,none,none,none,none,none,none,none,none,none,none,none,none,none,none,none,none,none],bx:=[],E:=E }
structure I15 (E:Mem) (K:SV->Mem->Prop) (a:Int) (ws:List Int) (l2 i:Nat) (u:Int):Prop where
 i6:i<=6
 il:i<=l2
 hu:0<=u/\u<128 ^ i
 h:∀ (n end' e:Int) (E':Mem),Mem.le E E'->Hyp (rdF a ws (7-i) i u=(n,end',e))->K (.tup [I n,I end',I e]) E'
theorem rnd15 {E0:Mem} {b2:Option Addr} {l2 c2:Nat} {ws:List Int} (hB:Bs E b2 l2 c2 ws) (hE0:Mem.le E0 E) (hl:l2<=100000) (ha:0<=a/\a<=100000) (hi:i<=6) (hil:i<=l2) (hu:0<=u/\u<128 ^ i) (h:∀ (n end' e:Int) (E':Mem),Mem.le E E'->Hyp (rdF a ws (7-i) i u=(n,end',e))->K (.tup [I n,I end',I e]) E')
  (ih:∀ u',i<6->i<l2->0<=u'/\u'<128 ^ (i+1)->(∀ (n end' e:Int) (E':Mem),Mem.le E E'->Hyp (rdF a ws (7-(i+1)) (i+1) u'=(n,end',e))->K (.tup [I n,I end',I e]) E')->Lp W7 6 Try.f61 [1,1,1,0,1,0] 0 (pubK E0 K) (sh15 b l c a b2 l2 c2 (i+1) u' E)):
  Rnd W7 6 Try.f61 [1,1,1,0,1,0] 0 (pubK E0 K) (sh15 b l c a b2 l2 c2 i u E):=by
 refine sm_ (?_:bif decide ((NI i)<(NI l2)) then req (0<=(NI i)/\(NI i)<(NI l2)) ((∃ (cs:List Value),E (VS b2 l2 c2) cs/\(cs=[]->False))/\∃ (n:Int),LoadE W7.P E 5 (VS b2 l2 c2) (Int.toNat (NI i)*1) (SV.raw (U8 n))/\bif decide (n>=(128:Int)) then bif bif true then (NI i)==6 else false then Mem.le E0 E/\K (SV.tup [I 0,I 0,I 3]) E else bif decide (n>=(128:Int)) then req ((0:Int)<=WI ((7:Int)*(NI i))) (Lp W7 6 Try.f61 [1,1,1,0,1,0] 0 (pubK E0 K) { fr:=some (L b l c)::oI a::none::none::none::none::none::oI (WI (NI (BitVec.toNat (BitVec.ofInt (IntKind.bits IntKind.i64) u|||BitVec.ofInt (IntKind.bits IntKind.i64) (WI (WI (IntKind.wrap IntKind.u8 (n-(128:Int)))*(2:Int) ^ min (Int.toNat (WI ((7:Int)*(NI i)))) (IntKind.bits IntKind.i64)))))))::no8 (no4 (none::(oL b2 l2 c2::oI (NI l2)::oI (WI ((NI i)+1))::no32 (no8 (no4 (no2 (none::[]))))))),bx:=[],E:=E:St }) else req ((0:Int)<=WI ((7:Int)*(NI i))) (((0:Int)<=WI (NI (BitVec.toNat (BitVec.ofInt (IntKind.bits IntKind.i64) u|||BitVec.ofInt (IntKind.bits IntKind.i64) (WI (WI n*(2:Int) ^ min (Int.toNat (WI ((7:Int)*(NI i)))) (IntKind.bits IntKind.i64))))))/\WI (NI (BitVec.toNat (BitVec.ofInt (IntKind.bits IntKind.i64) u|||BitVec.ofInt (IntKind.bits IntKind.i64) (WI (WI n*(2:Int) ^ min (Int.toNat (WI ((7:Int)*(NI i)))) (IntKind.bits IntKind.i64))))))<(1152921504606846976:Int))/\Mem.le E E/\Mem.le E E/\bif decide (okN (unzig (WI (NI (BitVec.toNat (BitVec.ofInt (IntKind.bits IntKind.i64) u|||BitVec.ofInt (IntKind.bits IntKind.i64) (WI (WI n*(2:Int) ^ min (Int.toNat (WI ((7:Int)*(NI i)))) (IntKind.bits IntKind.i64))))))))) then bif decide (n>(0:Int)) then Mem.le E0 E/\K (SV.tup [I (unzig (WI (NI (BitVec.toNat (BitVec.ofInt (IntKind.bits IntKind.i64) u|||BitVec.ofInt (IntKind.bits IntKind.i64) (WI (WI n*(2:Int) ^ min (Int.toNat (WI ((7:Int)*(NI i)))) (IntKind.bits IntKind.i64)))))))),I (WI (WI (a+(NI i))+(1:Int))),I 0]) E else bif bif true then bif false then true else (NI i)==0 else false then Mem.le E0 E/\K (SV.tup [I (unzig (WI (NI (BitVec.toNat (BitVec.ofInt (IntKind.bits IntKind.i64) u|||BitVec.ofInt (IntKind.bits IntKind.i64) (WI (WI n*(2:Int) ^ min (Int.toNat (WI ((7:Int)*(NI i)))) (IntKind.bits IntKind.i64)))))))),I (WI (WI (a+(NI i))+(1:Int))),I 0]) E else Mem.le E0 E/\K (SV.tup [I 0,I 0,I 3]) E else Mem.le E0 E/\K (SV.tup [I 0,I 0,I 3]) E) else bif decide (n>=(128:Int)) then req ((0:Int)<=WI ((7:Int)*(NI i))) (Lp W7 6 Try.f61 [1,1,1,0,1,0] 0 (pubK E0 K) { fr:=some (L b l c)::oI a::none::none::none::none::none::oI (WI (NI (BitVec.toNat (BitVec.ofInt (IntKind.bits IntKind.i64) u|||BitVec.ofInt (IntKind.bits IntKind.i64) (WI (WI (IntKind.wrap IntKind.u8 (n-(128:Int)))*(2:Int) ^ min (Int.toNat (WI ((7:Int)*(NI i)))) (IntKind.bits IntKind.i64)))))))::no8 (no4 (none::(oL b2 l2 c2::oI (NI l2)::oI (WI ((NI i)+1))::no32 (no8 (no4 (no2 (none::[]))))))),bx:=[],E:=E:St }) else req ((0:Int)<=WI ((7:Int)*(NI i))) (((0:Int)<=WI (NI (BitVec.toNat (BitVec.ofInt (IntKind.bits IntKind.i64) u|||BitVec.ofInt (IntKind.bits IntKind.i64) (WI (WI n*(2:Int) ^ min (Int.toNat (WI ((7:Int)*(NI i)))) (IntKind.bits IntKind.i64))))))/\WI (NI (BitVec.toNat (BitVec.ofInt (IntKind.bits IntKind.i64) u|||BitVec.ofInt (IntKind.bits IntKind.i64) (WI (WI n*(2:Int) ^ min (Int.toNat (WI ((7:Int)*(NI i)))) (IntKind.bits IntKind.i64))))))<(1152921504606846976:Int))/\Mem.le E E/\Mem.le E E/\bif decide (okN (unzig (WI (NI (BitVec.toNat (BitVec.ofInt (IntKind.bits IntKind.i64) u|||BitVec.ofInt (IntKind.bits IntKind.i64) (WI (WI n*(2:Int) ^ min (Int.toNat (WI ((7:Int)*(NI i)))) (IntKind.bits IntKind.i64))))))))) then bif decide (n>(0:Int)) then Mem.le E0 E/\K (SV.tup [I (unzig (WI (NI (BitVec.toNat (BitVec.ofInt (IntKind.bits IntKind.i64) u|||BitVec.ofInt (IntKind.bits IntKind.i64) (WI (WI n*(2:Int) ^ min (Int.toNat (WI ((7:Int)*(NI i)))) (IntKind.bits IntKind.i64)))))))),I (WI (WI (a+(NI i))+(1:Int))),I 0]) E else bif bif true then bif false then true else (NI i)==0 else false then Mem.le E0 E/\K (SV.tup [I (unzig (WI (NI (BitVec.toNat (BitVec.ofInt (IntKind.bits IntKind.i64) u|||BitVec.ofInt (IntKind.bits IntKind.i64) (WI (WI n*(2:Int) ^ min (Int.toNat (WI ((7:Int)*(NI i)))) (IntKind.bits IntKind.i64)))))))),I (WI (WI (a+(NI i))+(1:Int))),I 0]) E else Mem.le E0 E/\K (SV.tup [I 0,I 0,I 3]) E else Mem.le E0 E/\K (SV.tup [I 0,I 0,I 3]) E)) else Mem.le E0 E/\K (SV.tup [I 0,I 0,I 11]) E)
 delta WI NI U8 VS no2 no4 no8 no32
 have hlen:=hB.2.1
 obtain ⟨k,hk⟩:∃ k,7-i=k+1:=⟨6-i,by omega⟩
 have hk':7-(i+1)=k:=by omega
 rw [hk'] at ih
 rw [hk] at h
 have h7:IntKind.wrap .i64 (7*(i:Int))=7*i:=wrap_i64 (by omega)
 unfold rdF at h
 refine condC (fun hlt=>?_) (fun hlt=>?_)
 ·have hlt:i<l2:=by simpa using hlt
  rw [if_neg (by omega)] at h
  have hc:0<=ws.getD i 0/\ws.getD i 0<=255:=by
   refine BsB hB _ ?_
   rw [List.getD_eq_getElem?_getD,List.getElem?_eq_getElem (by omega)];exact List.getElem_mem _
  refine req_intro ⟨by omega,by omega⟩ ⟨hB.ne hlt,ws.getD i 0,hB.load rfl hlt,?_⟩
  generalize ws.getD i 0=c1 at hc h ih
  refine condC (fun h1=>?_) (fun h1=>?_)
  ·have h1:128<=c1:=by simpa using h1
   rw [if_pos h1] at h
   refine condC (fun h2=>?_) (fun h2=>?_)
   ·have h2:i=6:=by simp at h2;omega
    rw [if_pos (by omega)] at h
    exact ⟨hE0,h 0 0 3 E mr_ rfl⟩
   ·have h2:i<6:=by simp at h2;omega
    rw [if_neg (by omega)] at h
    refine condC (fun _=>?_) (fun h3=>absurd h1 (by simp at h3;omega))
    refine req_intro (by rw [h7];omega) ?_
    have ho:=orW hi hu (d:=c1-128) (by omega)
    have e1:IntKind.wrap .i64 (IntKind.wrap .u8 (c1-128))=c1-128:=by rw [wu8 (by omega),wrap_i64 (by omega)]
    have e2:IntKind.wrap .i64 ((i:Int)+1)=((i+1:Nat):Int):=by rw [wrap_i64 (by omega)];simp
    rw [e1,ho.1,e2]
    exact Lp_from (by repeat' first|exact True.intro|refine And.intro rfl ?_) (ih _ h2 hlt ho.2 h)
  ·have h1:¬ 128<=c1:=by simpa using h1
   rw [if_neg h1] at h
   refine condC (fun h3=>absurd h3 (by simp;omega)) (fun _=>?_)
   refine req_intro (by rw [h7];omega) ?_
   have ho:=orW hi hu (d:=c1) (by omega)
   have e1:IntKind.wrap .i64 c1=c1:=wrap_i64 (by omega)
   have e2:IntKind.wrap .i64 (IntKind.wrap .i64 (a+(i:Int))+1)=a+i+1:=by rw [wrap_i64 (x:=a+i) (by omega),wrap_i64 (by omega)]
   have hb:(128:Int) ^ (i+1)<=128 ^ 7:=by
    have:=Nat.pow_le_pow_right (show 128>0 by omega) (show i+1<=7 by omega)
    exact_mod_cast this
   simp only [e1,ho.1,e2]
   refine ⟨⟨ho.2.1,by have:=ho.2.2;simp at hb;omega⟩,mr_,mr_,?_⟩
   refine condC (fun h4=>?_) (fun h4=>?_)
   ·have h4:okN (unzig (u+c1*128 ^ i)):=by simpa using h4
    refine condC (fun h5=>?_) (fun h5=>?_)
    ·have h5:0<c1:=by simpa using h5
     rw [if_pos ⟨h4,.inl h5⟩] at h
     exact ⟨hE0,h _ _ _ E mr_ rfl⟩
    ·have h5:¬ 0<c1:=by simpa using h5
     refine condC (fun h6=>?_) (fun h6=>?_)
     ·have h6:i=0:=by simp at h6;omega
      rw [if_pos ⟨h4,.inr h6⟩] at h
      exact ⟨hE0,h _ _ _ E mr_ rfl⟩
     ·have h6:¬ i=0:=by simp at h6;omega
      rw [if_neg (by rintro ⟨_,q|q⟩;exact h5 q;exact h6 q)] at h
      exact ⟨hE0,h _ _ _ E mr_ rfl⟩
   ·have h4:¬ okN (unzig (u+c1*128 ^ i)):=by simpa using h4
    rw [if_neg (fun q=>h4 q.1)] at h
    exact ⟨hE0,h _ _ _ E mr_ rfl⟩
 ·have hlt:¬ i<l2:=by simpa using hlt
  rw [if_pos (by omega)] at h
  exact ⟨hE0,h 0 0 11 E mr_ rfl⟩
theorem s15 (hB:Bs E b l c zs) (hl:l<=100000) (h:∀ (n end' e:Int) (E':Mem),Mem.le E E'->Hyp (rd zs a=(n,end',e))->K (.tup [I n,I end',I e]) E'):Ent W7 6 Try.f61 [L b l c,I a] E K:=by
 refine sm_ (?_:bif decide (a<(0:Int)) then Mem.le E E/\K (SV.tup [I 0,I 0,I 1]) E else bif bif false then true else decide (a>(NI l)) then Mem.le E E/\K (SV.tup [I 0,I 0,I 1]) E else req (l<=c) (req ((0:Int)<=a/\a<=(NI (toN none l))) (∀ (base':Option Addr) (E':Mem),Mem.le E E'->(∀ (cs:List Value),E (VS b l c) cs->E' (VS base' (toN none l-toN (some a) 0) (toN none c-toN (some a) 0)) (List.take ((toN none l-toN (some a) 0)*1) (List.drop (toN (some a) 0*1) cs)))->Option.isNone base'=Option.isNone b->Lp W7 6 Try.f61 [1,1,1,0,1,0] 0 (pubK E K) { fr:=some (L b l c)::oI a::none::none::none::none::none::oI 0::none::none::none::oI a::oB (decide (a<(0:Int)))::oB false::oI a::oL b l c::oI (NI l)::oB (decide (a>(NI l)))::oB (bif false then true else decide (a>(NI l)))::oL b l c::oI a::oL base' (toN none l-toN (some a) 0) (toN none c-toN (some a) 0)::oI (NI (toN none l-toN (some a) 0))::oI 0::no32 (no8 (no4 (no2 (none::[])))),bx:=[],E:=E':St })))
 delta NI VS no2 no4 no8 no32
 have hlen:=hB.2.1
 refine condC (fun h1=>?_) (fun h1=>?_)
 ·exact ⟨mr_,h 0 0 1 E mr_ (by show rd zs a=_;unfold rd;rw [if_pos (.inl (by simpa using h1))])⟩
 ·have h1:¬ a<0:=by simpa using h1
  refine condC (fun h2=>?_) (fun h2=>?_)
  ·have h2:a>l:=by simpa using h2
   exact ⟨mr_,h 0 0 1 E mr_ (by show rd zs a=_;unfold rd;rw [if_pos (.inr (by omega))])⟩
  ·have h2:a<=l:=by simpa using h2
   have hr:rd zs a=rdF a (zs.drop a.toNat) 7 0 0:=by unfold rd;rw [if_neg (by omega)]
   rw [hr] at h
   refine req_intro hB.2.2.1 (req_intro ⟨by omega,h2⟩ ?_)
   intro b2 E' hE hF hN
   have hB2:Bs E' b2 (l-a.toNat) (c-a.toNat) (zs.drop a.toNat):=by
    refine ⟨?_,by simp [hlen],by have:=hB.2.2.1;omega,fun z hz=>BsB hB z (List.drop_subset _ _ hz),fun e=>?_⟩
    ·rcases hB.1 with q|q
     ·exact .inl (by rw [q];simp)
     ·refine .inr ?_
      have:=hF _ q
      rw [Nat.mul_one,Nat.mul_one,← List.map_drop,List.take_of_length_le (by show _<=l-a.toNat;rw [List.length_map,List.length_drop,hlen];exact Nat.le_refl _)] at this
      exact this
    ·have :zs=[]:=hB.2.2.2.2 (by cases b with |none=>rfl|some x=>rw [e] at hN;cases hN)
     rw [this];simp
   have key:=Lp_ind okW7 (n:=6) (fn:=Try.f61) (p:=[1,1,1,0,1,0]) (n0:=0) (K:=pubK E K) (fun x:{x:Nat×Int//I15 E' K a (zs.drop a.toNat) (l-a.toNat) x.1 x.2}=>sh15 b l c a b2 (l-a.toNat) (c-a.toNat) x.1.1 x.1.2 E') (fun x=>7-x.1.1) (by
    rintro ⟨⟨i,u⟩,hP⟩ ih
    have hP:I15 E' K a (zs.drop a.toNat) (l-a.toNat) i u:=hP
    have g6:=hP.i6
    refine rnd15 hB2 hE (by omega) (by omega) hP.i6 hP.il hP.hu hP.h (fun u' q1 q2 q3 q4=>?_)
    exact ih ⟨⟨i+1,u'⟩,⟨q1,q2,q3,q4⟩⟩ (by show 7-(i+1)<7-i;omega))
   exact Lp_from (by repeat' first|exact True.intro|refine And.intro rfl ?_) (key ⟨⟨0,0⟩,⟨by omega,by omega,by simp,fun n e' e E2 hE2 hy=>h n e' e E2 (mt_ hE hE2) hy⟩⟩)
structure WOK (out:List Int) (n cap tot:Nat):Prop where
 len:out.length=n
 nc:n<=cap
 ct:cap<=tot
def wnum (o:List Int×Bool) (v lo hi:Int):List Int×Bool:=if v<lo\/v>hi\/o.2=true then (o.1,true) else (o.1++dig (zig v),false)
theorem wnum_bad {o:List Int×Bool} (h:v<lo\/v>hi\/o.2=true):wnum o v lo hi=(o.1,true):=if_pos h
theorem wnum_ok {o:List Int×Bool} {v lo hi:Int} (h:¬ (v<lo\/v>hi\/o.2=true)):wnum o v lo hi=(o.1++dig (zig v),false):=if_neg h
theorem dig_len10 (u:Int):(dig u).length<=10:=(dig_len u).2
theorem wnum_len (o:List Int×Bool) (v lo hi:Int):(wnum o v lo hi).1.length<=o.1.length+10:=by
 unfold wnum
 split
 ·simp
 ·have:=dig_len10 (zig v)
  simp;exact this
theorem vB_one (zs:List Int):∀ x:Value,List.Mem x (vB zs)->x.oneCell'=true:=fun x hx=>by
 obtain ⟨z,_,rfl⟩:=List.mem_map.1 hx
 rfl
noncomputable def X1:Cx:={ P:=Try.prog,inl:=fun f=>List.contains [122,82,83] f,tab:=tab1,isB:=fun f=>f==79,tabB:=tabB1,opt:={ unroll:=0,carry:=[] },muts:=(fun o=>match o with | .call _=>true|o=>mutsD o) }
theorem okX1:CxOK X1:=CxOK.four tab1_ok (by kernel_rfl) (okInl (by kernel_rfl)) tabB1_ok
theorem n120 {bad:Bool} (W:WOK out n cap tot) (hs:n<=1000000) (hb: -10000000000000<=lo/\hi<=10000000000000) (hv:us[off]? =some (.int .i64 v))
  (h:∀ (o':List Int×Bool) (n' cap' tot':Nat),Hyp (wnum (out,bad) v lo hi=o')->WOK o'.1 n' cap' tot'->KK (.tup []) [⟨76,.lst [.slc 3 0 n' cap',B o'.2],2,true⟩,deadB,⟨e,.vals us,t,true⟩,⟨5,.vals (vB o'.1),tot',true⟩] E) (hQ:∀ s bx',cloK 3 KK s bx' E->Q s bx' E):
  EntB X1 6 Try.f120 [.loc 0 0,.loc 2 off,I lo,I hi] [⟨76,.lst [.slc 1 0 n cap,B bad],2,true⟩,⟨5,.vals (vB out),tot,true⟩,⟨e,.vals us,t,true⟩] E Q:=by
 refine sm_ (?_:∃ (n_1:Int),LoadV X1.P 3 us off (I n_1)/\bif decide (n_1<lo) then Q (SV.tup []) [⟨76,Row.lst [SV.slc 1 0 n cap,B true],2,true⟩,⟨5,Row.vals (vB out),tot,true⟩,⟨e,Row.vals us,t,true⟩] E else ∃ (n_2:Int),LoadV X1.P 3 us off (I n_2)/\bif bif false then true else decide (n_2>hi) then Q (SV.tup []) [⟨76,Row.lst [SV.slc 1 0 n cap,B true],2,true⟩,⟨5,Row.vals (vB out),tot,true⟩,⟨e,Row.vals us,t,true⟩] E else bif bif false then true else bad then Q (SV.tup []) [⟨76,Row.lst [SV.slc 1 0 n cap,B true],2,true⟩,⟨5,Row.vals (vB out),tot,true⟩,⟨e,Row.vals us,t,true⟩] E else ∃ (n_3:Int),LoadV X1.P 3 us off (I n_3)/\bif decide (n_3>=(-10000000000000:Int)) then Mem.le E E/\bif !bif true then decide (n_3<=(10000000000000:Int)) else false then Sx.Alike (AlikeT.n (AlikeT.n AlikeT.l (AlikeT.n AlikeT.l al2)) AlikeT.l) (Q (SV.tup []) [⟨76,Row.lst [L none 0 0,B bad],2,true⟩,⟨5,Row.vals (vB out),tot,true⟩,⟨e,Row.vals us,t,true⟩] E) else ∀ (r:Bool),(r=true->n=0/\cap=0)->bif r then ((-10000000000000:Int)<=n_3/\n_3<=(10000000000000:Int))/\Mem.le E E/\((0:Int)<=zig n_3/\zig n_3<(1152921504606846976:Int))/\∀ (cap' tot':Nat),List.length (dig (zig n_3))<=cap'->cap'<=tot'->Mem.le E E/\Sx.Alike (AlikeT.n (AlikeT.n AlikeT.l (AlikeT.n AlikeT.l al2)) AlikeT.l) (Q (SV.tup []) [⟨76,Row.lst [SV.slc 3 0 (List.length (dig (zig n_3))) cap',B bad],2,true⟩,⟨5,Row.vals (vB out),tot,true⟩,⟨e,Row.vals us,t,true⟩,⟨5,Row.vals (vB (dig (zig n_3))),tot',true⟩] E) else 0+n*1<=List.length (vB out)/\(∀ (x:Value),List.Mem x (vB out)->Value.oneCell' x=true)/\0<=0/\0<=0/\0<=0/\req ((0+n)*1<=140737488355328) (∀ (cap' tot':Nat),0+n<=cap'->cap'*1<=tot'->((-10000000000000:Int)<=n_3/\n_3<=(10000000000000:Int))/\Mem.le E E/\((0:Int)<=zig n_3/\zig n_3<(1152921504606846976:Int))/\∃ (l:List Int),(5=5/\[]++List.take (n*1) (List.drop 0 (vB out))=vB l/\List.length l=0+n/\0+n<=cap'/\cap'<=tot'/\0+n<=1000000)/\∀ (cap' tot':Nat),0+n+List.length (dig (zig n_3))<=cap'->cap'<=tot'->Sx.Alike (AlikeT.n (AlikeT.n AlikeT.l (AlikeT.n AlikeT.l al2)) AlikeT.l) (Q (SV.tup []) [⟨76,Row.lst [SV.slc 5 0 (0+n+List.length (dig (zig n_3))) cap',B bad],2,true⟩,⟨5,Row.vals (vB out),tot,true⟩,⟨e,Row.vals us,t,true⟩,⟨5,Row.lst [],0,false⟩,⟨5,Row.lst [],0,false⟩,⟨5,Row.vals (vB (l++dig (zig n_3))),tot',true⟩] E)) else Mem.le E E/\Sx.Alike (AlikeT.n (AlikeT.n AlikeT.l (AlikeT.n AlikeT.l al2)) AlikeT.l) (Q (SV.tup []) [⟨76,Row.lst [L none 0 0,B bad],2,true⟩,⟨5,Row.vals (vB out),tot,true⟩,⟨e,Row.vals us,t,true⟩] E))
 have hl:=loadV_cell (P:=X1.P) (T:=3) rfl rfl hv
 have bad':v<lo\/v>hi\/bad=true->Q (.tup []) [⟨76,.lst [.slc 1 0 n cap,B true],2,true⟩,⟨5,.vals (vB out),tot,true⟩,⟨e,.vals us,t,true⟩] E:=fun q=>hQ _ _ (cloK_intro (K:=KK) [some 0,some 1,some 2,some 1] (h (out,true) n cap tot (wnum_bad q) W) (wkH mr_))
 refine ⟨v,hl,condC (fun g=>bad' (.inl (by simpa using g))) (fun g=>⟨v,hl,condC (fun g2=>bad' (.inr (.inl (by simpa using g2)))) (fun g2=>condC (fun g3=>bad' (.inr (.inr (by simpa using g3)))) (fun g3=>⟨v,hl,?_⟩))⟩)⟩
 have g:¬ v<lo:=by simpa using g
 have g2:¬ v>hi:=by simpa using g2
 have g3:bad=false:=by simpa using g3
 subst g3
 have hq:=@wnum_ok (out,false) v lo hi (by rintro (q|q|q)<;>simp_all)
 have hz:=zig_b (n:=v) ⟨by omega,by omega⟩
 have hd:=dig_len10 (zig v)
 refine condC (fun g4=>⟨mr_,condC (fun g5=>?_) (fun g5=>?_)⟩) (fun g4=>?_)
 ·simp at g5;omega
 rotate_left
 ·simp at g4;omega
 obtain ⟨w1,w2,w3⟩:=W
 intro r hr
 refine condC (fun g6=>?_) (fun g6=>?_)
 ·obtain ⟨r1,r2⟩:=hr g6
  subst r1
  have hnil:out=[]:=List.eq_nil_of_length_eq_zero w1
  subst hnil
  refine ⟨⟨by omega,by omega⟩,mr_,hz,fun cap' tot' c1 c2=>⟨mr_,alike (by exact hQ _ _ (cloK_intro (K:=KK) [some 0,some 1,some 2,some 3] (h _ _ cap' tot' hq ⟨rfl,by simpa using c1,c2⟩) (wkH mr_)))⟩⟩
 ·refine ⟨by simp;omega,vB_one out,Nat.le_refl _,Nat.le_refl _,Nat.le_refl _,req_intro (by omega) (fun cap1 tot1 c1 c2=>⟨⟨by omega,by omega⟩,mr_,hz,out,⟨rfl,by rw [List.drop_zero,tkB (Nat.le_of_eq w1)];rfl,by omega,c1,by omega,by omega⟩,fun cap' tot' c3 c4=>alike (by exact hQ _ _ (cloK_intro (K:=KK) [some 0,some 1,some 2,some 5] (h _ _ cap' tot' hq ⟨by simp;omega,c3,c4⟩) (wkH mr_)))⟩)⟩
theorem n120r {bad:Bool} (W:WOK out n cap tot) (hs:n<=1000000) (hb: -10000000000000<=lo/\hi<=10000000000000) (hv:LoadE X1.P E 3 x off (I v))
  (h:∀ (o':List Int×Bool) (n' cap' tot':Nat),Hyp (wnum (out,bad) v lo hi=o')->WOK o'.1 n' cap' tot'->KK (.tup []) [⟨76,.lst [.slc 2 0 n' cap',B o'.2],2,true⟩,deadB,⟨5,.vals (vB o'.1),tot',true⟩] E) (hQ:∀ s bx',cloK 2 KK s bx' E->Q s bx' E):
  EntB X1 6 Try.f120 [.loc 0 0,.rp x off,I lo,I hi] [⟨76,.lst [.slc 1 0 n cap,B bad],2,true⟩,⟨5,.vals (vB out),tot,true⟩] E Q:=by
 refine sm_ (?_:∃ (n_1:Int),LoadE X1.P E 3 x off (I n_1)/\bif decide (n_1<lo) then Q (SV.tup []) [⟨76,Row.lst [SV.slc 1 0 n cap,B true],2,true⟩,⟨5,Row.vals (vB out),tot,true⟩] E else ∃ (n_2:Int),LoadE X1.P E 3 x off (I n_2)/\bif bif false then true else decide (n_2>hi) then Q (SV.tup []) [⟨76,Row.lst [SV.slc 1 0 n cap,B true],2,true⟩,⟨5,Row.vals (vB out),tot,true⟩] E else bif bif false then true else bad then Q (SV.tup []) [⟨76,Row.lst [SV.slc 1 0 n cap,B true],2,true⟩,⟨5,Row.vals (vB out),tot,true⟩] E else ∃ (n_3:Int),LoadE X1.P E 3 x off (I n_3)/\bif decide (n_3>=(-10000000000000:Int)) then Mem.le E E/\bif !bif true then decide (n_3<=(10000000000000:Int)) else false then Sx.Alike (AlikeT.n (AlikeT.n AlikeT.l (AlikeT.n AlikeT.l al2)) AlikeT.l) (Q (SV.tup []) [⟨76,Row.lst [L none 0 0,B bad],2,true⟩,⟨5,Row.vals (vB out),tot,true⟩] E) else ∀ (r:Bool),(r=true->n=0/\cap=0)->bif r then ((-10000000000000:Int)<=n_3/\n_3<=(10000000000000:Int))/\Mem.le E E/\((0:Int)<=zig n_3/\zig n_3<(1152921504606846976:Int))/\∀ (cap' tot':Nat),List.length (dig (zig n_3))<=cap'->cap'<=tot'->Mem.le E E/\Sx.Alike (AlikeT.n (AlikeT.n AlikeT.l (AlikeT.n AlikeT.l al2)) AlikeT.l) (Q (SV.tup []) [⟨76,Row.lst [SV.slc 2 0 (List.length (dig (zig n_3))) cap',B bad],2,true⟩,⟨5,Row.vals (vB out),tot,true⟩,⟨5,Row.vals (vB (dig (zig n_3))),tot',true⟩] E) else 0+n*1<=List.length (vB out)/\(∀ (x:Value),List.Mem x (vB out)->Value.oneCell' x=true)/\0<=0/\0<=0/\0<=0/\req ((0+n)*1<=140737488355328) (∀ (cap' tot':Nat),0+n<=cap'->cap'*1<=tot'->((-10000000000000:Int)<=n_3/\n_3<=(10000000000000:Int))/\Mem.le E E/\((0:Int)<=zig n_3/\zig n_3<(1152921504606846976:Int))/\∃ (l:List Int),(5=5/\[]++List.take (n*1) (List.drop 0 (vB out))=vB l/\List.length l=0+n/\0+n<=cap'/\cap'<=tot'/\0+n<=1000000)/\∀ (cap' tot':Nat),0+n+List.length (dig (zig n_3))<=cap'->cap'<=tot'->Sx.Alike (AlikeT.n (AlikeT.n AlikeT.l (AlikeT.n AlikeT.l al2)) AlikeT.l) (Q (SV.tup []) [⟨76,Row.lst [SV.slc 4 0 (0+n+List.length (dig (zig n_3))) cap',B bad],2,true⟩,⟨5,Row.vals (vB out),tot,true⟩,⟨5,Row.lst [],0,false⟩,⟨5,Row.lst [],0,false⟩,⟨5,Row.vals (vB (l++dig (zig n_3))),tot',true⟩] E)) else Mem.le E E/\Sx.Alike (AlikeT.n (AlikeT.n AlikeT.l (AlikeT.n AlikeT.l al2)) AlikeT.l) (Q (SV.tup []) [⟨76,Row.lst [L none 0 0,B bad],2,true⟩,⟨5,Row.vals (vB out),tot,true⟩] E))
 have hl:=hv
 have bad':v<lo\/v>hi\/bad=true->Q (.tup []) [⟨76,.lst [.slc 1 0 n cap,B true],2,true⟩,⟨5,.vals (vB out),tot,true⟩] E:=fun q=>hQ _ _ (cloK_intro (K:=KK) [some 0,some 1,some 1] (h (out,true) n cap tot (wnum_bad q) W) (wkH mr_))
 refine ⟨v,hl,condC (fun g=>bad' (.inl (by simpa using g))) (fun g=>⟨v,hl,condC (fun g2=>bad' (.inr (.inl (by simpa using g2)))) (fun g2=>condC (fun g3=>bad' (.inr (.inr (by simpa using g3)))) (fun g3=>⟨v,hl,?_⟩))⟩)⟩
 have g:¬ v<lo:=by simpa using g
 have g2:¬ v>hi:=by simpa using g2
 have g3:bad=false:=by simpa using g3
 subst g3
 have hq:=@wnum_ok (out,false) v lo hi (by rintro (q|q|q)<;>simp_all)
 have hz:=zig_b (n:=v) ⟨by omega,by omega⟩
 have hd:=dig_len10 (zig v)
 refine condC (fun g4=>⟨mr_,condC (fun g5=>?_) (fun g5=>?_)⟩) (fun g4=>?_)
 ·simp at g5;omega
 rotate_left
 ·simp at g4;omega
 obtain ⟨w1,w2,w3⟩:=W
 intro r hr
 refine condC (fun g6=>?_) (fun g6=>?_)
 ·obtain ⟨r1,r2⟩:=hr g6
  subst r1
  have hnil:out=[]:=List.eq_nil_of_length_eq_zero w1
  subst hnil
  refine ⟨⟨by omega,by omega⟩,mr_,hz,fun cap' tot' c1 c2=>⟨mr_,alike (by exact hQ _ _ (cloK_intro (K:=KK) [some 0,some 1,some 2] (h _ _ cap' tot' hq ⟨rfl,by simpa using c1,c2⟩) (wkH mr_)))⟩⟩
 ·refine ⟨by simp;omega,vB_one out,Nat.le_refl _,Nat.le_refl _,Nat.le_refl _,req_intro (by omega) (fun cap1 tot1 c1 c2=>⟨⟨by omega,by omega⟩,mr_,hz,out,⟨rfl,by rw [List.drop_zero,tkB (Nat.le_of_eq w1)];rfl,by omega,c1,by omega,by omega⟩,fun cap' tot' c3 c4=>alike (by exact hQ _ _ (cloK_intro (K:=KK) [some 0,some 1,some 4] (h _ _ cap' tot' hq ⟨by simp;omega,c3,c4⟩) (wkH mr_)))⟩)⟩
theorem n120n {bad:Bool} (hb: -10000000000000<=lo/\hi<=10000000000000) (hv:us[off]? =some (.int .i64 v))
  (h:∀ (o':List Int×Bool) (n' cap' tot':Nat),Hyp (wnum ([],bad) v lo hi=o')->WOK o'.1 n' cap' tot'->KK (.tup []) [⟨76,.lst [.slc 2 0 n' cap',B o'.2],2,true⟩,⟨e,.vals us,t,true⟩,⟨5,.vals (vB o'.1),tot',true⟩] E) (hQ:∀ s bx',cloK 2 KK s bx' E->Q s bx' E):
  EntB X1 6 Try.f120 [.loc 0 0,.loc 1 off,I lo,I hi] [⟨76,.lst [L none 0 0,B bad],2,true⟩,⟨e,.vals us,t,true⟩] E Q:=by
 refine sm_ (?_:∃ (n:Int),LoadV X1.P 3 us off (I n)/\bif decide (n<lo) then Q (SV.tup []) [⟨76,Row.lst [L none 0 0,B true],2,true⟩,⟨e,Row.vals us,t,true⟩] E else ∃ (n:Int),LoadV X1.P 3 us off (I n)/\bif bif false then true else decide (n>hi) then Q (SV.tup []) [⟨76,Row.lst [L none 0 0,B true],2,true⟩,⟨e,Row.vals us,t,true⟩] E else bif bif false then true else bad then Q (SV.tup []) [⟨76,Row.lst [L none 0 0,B true],2,true⟩,⟨e,Row.vals us,t,true⟩] E else ∃ (n:Int),LoadV X1.P 3 us off (I n)/\bif decide (n>=(-10000000000000:Int)) then Mem.le E E/\bif !bif true then decide (n<=(10000000000000:Int)) else false then Mem.le E E/\Sx.Alike (AlikeT.n (AlikeT.n AlikeT.l (AlikeT.n AlikeT.l al2)) AlikeT.l) (Q (SV.tup []) [⟨76,Row.lst [L none 0 0,B bad],2,true⟩,⟨e,Row.vals us,t,true⟩] E) else Mem.le E E/\((-10000000000000:Int)<=n/\n<=(10000000000000:Int))/\Mem.le E E/\((0:Int)<=zig n/\zig n<(1152921504606846976:Int))/\∀ (cap' tot':Nat),List.length (dig (zig n))<=cap'->cap'<=tot'->Mem.le E E/\Mem.le E E/\Sx.Alike (AlikeT.n (AlikeT.n AlikeT.l (AlikeT.n AlikeT.l al2)) AlikeT.l) (Q (SV.tup []) [⟨76,Row.lst [SV.slc 2 0 (List.length (dig (zig n))) cap',B bad],2,true⟩,⟨e,Row.vals us,t,true⟩,⟨5,Row.vals (vB (dig (zig n))),tot',true⟩] E) else Mem.le E E/\Mem.le E E/\Sx.Alike (AlikeT.n (AlikeT.n AlikeT.l (AlikeT.n AlikeT.l al2)) AlikeT.l) (Q (SV.tup []) [⟨76,Row.lst [L none 0 0,B bad],2,true⟩,⟨e,Row.vals us,t,true⟩] E))
 have hl:=loadV_cell (P:=X1.P) (T:=3) rfl rfl hv
 have bad':v<lo\/v>hi\/bad=true->Q (.tup []) [⟨76,.lst [L none 0 0,B true],2,true⟩,⟨e,.vals us,t,true⟩] E:=fun q=>hQ _ _ (cloK_intro (K:=KK) [some 0,some 1,none] (h ([],true) 0 0 0 (wnum_bad q) ⟨rfl,Nat.le_refl _,Nat.le_refl _⟩) (wkH mr_))
 refine ⟨v,hl,condC (fun g=>bad' (.inl (by simpa using g))) (fun g=>⟨v,hl,condC (fun g2=>bad' (.inr (.inl (by simpa using g2)))) (fun g2=>condC (fun g3=>bad' (.inr (.inr (by simpa using g3)))) (fun g3=>⟨v,hl,?_⟩))⟩)⟩
 have g:¬ v<lo:=by simpa using g
 have g2:¬ v>hi:=by simpa using g2
 have g3:bad=false:=by simpa using g3
 subst g3
 have hq:=@wnum_ok ([],false) v lo hi (by rintro (q|q|q)<;>simp_all)
 have hz:=zig_b (n:=v) ⟨by omega,by omega⟩
 have hd:=dig_len10 (zig v)
 refine condC (fun g4=>⟨mr_,condC (fun g5=>?_) (fun g5=>?_)⟩) (fun g4=>?_)
 ·simp at g5;omega
 rotate_left
 ·simp at g4;omega
 refine ⟨mr_,⟨by omega,by omega⟩,mr_,hz,fun cap' tot' c1 c2=>⟨mr_,mr_,alike (by exact hQ _ _ (cloK_intro (K:=KK) [some 0,some 1,some 2] (h _ _ cap' tot' hq ⟨rfl,by simpa using c1,c2⟩) (wkH mr_)))⟩⟩
noncomputable def X2:Cx:={ P:=Try.prog,inl:=fun f=>List.contains [] f,tab:=fun _ _ _ _=>False,isB:=fun _=>false,tabB:=fun _ _ _ _ _=>False,opt:={ unroll:=0,carry:=[4] },muts:=(fun o=>match o with | .call _=>true|o=>mutsD o) }
theorem okX2:CxOK X2:=CxOK.four (fun _ _ _ _ h=>h.elim) (by kernel_rfl) (okInl (by kernel_rfl)) (fun _ _ _ _ _ h=>h.elim)
def wuns (o:List Int×Bool) (v:Int):List Int×Bool:=(o.1,o.2||v !=0)
def wdat (o:List Int×Bool) (zs:List Int) (m:Int):List Int×Bool:=(o.1++zs,o.2||(zs.length:Int) !=m)
def digB (d:Int):List Int:=[d / 72057594037927936 % 256,d / 281474976710656 % 256,d / 1099511627776 % 256,d / 4294967296 % 256,d / 16777216 % 256,d / 65536 % 256,d / 256 % 256,d % 256]
def wdig (o:List Int×Bool) (d:Int):List Int×Bool:=(o.1++digB d,o.2)
theorem digB_at (d:Int) (h:j<8):(digB d)[j]? =some (IntKind.wrap .u8 (Int.fdiv d (2 ^ min (Int.toNat (56-8*(j:Int))) 64))):=by
 have w:∀ x:Int,IntKind.wrap .u8 x=x % 256:=fun _=>rfl
 rw [w]
 have :j=0\/j=1\/j=2\/j=3\/j=4\/j=5\/j=6\/j=7:=by omega
 rcases this with rfl|rfl|rfl|rfl|rfl|rfl|rfl|rfl
 all_goals
  simp only [digB,List.getElem?_cons_zero,List.getElem?_cons_succ]
  rw [Int.fdiv_eq_ediv_of_nonneg _ (by decide)]
  try rfl
 simp
theorem digB_len (d:Int):(digB d).length=8:=rfl
theorem digB_byte (d:Int):∀ z∈digB d,0<=z/\z<=255:=by
 intro z hz
 simp only [digB,List.mem_cons,List.not_mem_nil,or_false] at hz
 rcases hz with rfl|rfl|rfl|rfl|rfl|rfl|rfl|rfl<;>omega
theorem n121 {bad:Bool} (hv:us[off]? =some (.int .i64 v))
  (h:KK (.tup []) [⟨76,.lst [.slc 1 0 n cap,B (wuns (out,bad) v).2],2,true⟩,⟨5,.vals (vB out),tot,true⟩,⟨e,.vals us,t,true⟩] E) (hQ:∀ s bx',cloK 3 KK s bx' E->Q s bx' E):
  EntB X2 6 Try.f121 [.loc 0 0,.loc 2 off] [⟨76,.lst [.slc 1 0 n cap,B bad],2,true⟩,⟨5,.vals (vB out),tot,true⟩,⟨e,.vals us,t,true⟩] E Q:=by
 refine sm_ (?_:bif bad then Q (SV.tup []) [⟨76,Row.lst [SV.slc 1 0 n cap,B true],2,true⟩,⟨5,Row.vals (vB out),tot,true⟩,⟨e,Row.vals us,t,true⟩] E else ∃ (n_1:Int),LoadV X2.P 3 us off (I n_1)/\Q (SV.tup []) [⟨76,Row.lst [SV.slc 1 0 n cap,B (bif false then true else n_1 !=(0:Int))],2,true⟩,⟨5,Row.vals (vB out),tot,true⟩,⟨e,Row.vals us,t,true⟩] E)
 unfold wuns at h
 refine condC (fun g=>?_) (fun g=>⟨v,loadV_cell (P:=X2.P) (T:=3) rfl rfl hv,?_⟩)
 ·subst g
  exact hQ _ _ (cloK_intro [some 0,some 1,some 2] h (wkH mr_))
 ·subst g
  exact hQ _ _ (cloK_intro [some 0,some 1,some 2] h (wkH mr_))
def sh119 (out:List Int) (bad:Bool) (n cap tot:Nat) (us:List Value) (e t off:Nat) (j:Nat) (E:Mem):St:=⟨[oc 0 0,oc 2 off,none,none,oI (56-8*(j:Int))]++List.replicate 19 none,[⟨76,.lst [.slc 3 0 n cap,B bad],2,true⟩,deadB,⟨e,.vals us,t,true⟩,⟨5,.vals (vB out),tot,true⟩],E⟩
theorem rn119 {bad:Bool} {o0:List Int} (hv:us[off]? =some (.int .u64 v)) (hj:j<=8) (W:WOK out n cap tot) (ho:out=o0++(digB v).take j) (hs:o0.length<=1000000)
  (h:∀ n' cap' tot':Nat,WOK (o0++digB v) n' cap' tot'->KK (.tup []) [⟨76,.lst [.slc 3 0 n' cap',B bad],2,true⟩,deadB,⟨e,.vals us,t,true⟩,⟨5,.vals (vB (o0++digB v)),tot',true⟩] E) (hQ:∀ s bx',cloK 3 KK s bx' E->Q s bx' E)
  (ih:∀ (out':List Int) (n' cap' tot':Nat),j<8->WOK out' n' cap' tot'->out'=o0++(digB v).take (j+1)->Lp X2 6 Try.f119 [1,0] 3 Q (sh119 out' bad n' cap' tot' us e t off (j+1) E)):
  Rnd X2 6 Try.f119 [1,0] 3 Q (sh119 out bad n cap tot us e t off j E):=by
 refine sm_ (?_:bif decide ((56:Int)-(8:Int)*(NI j)>=0) then ∃ (n_1:Int),LoadV X2.P 32 us off (SV.raw (Value.int IntKind.u64 n_1))/\req ((0:Int)<=(56:Int)-(8:Int)*(NI j)) (n*1<=List.length (Row.cells (Row.vals (vB out)))/\cap*1<=tot/\n<=cap/\req ((n+1)*1<=140737488355328) (∀ (cap' tot':Nat),n+1<=cap'->cap'*1<=tot'->Lp X2 6 Try.f119 [1,0] 3 Q { fr:=some (SV.loc 0 0)::oc 2 off::none::none::oI (WI ((56:Int)-(8:Int)*(NI j)-8))::no16 (no2 (none::[])),bx:=[(⟨76,.lst [SV.slc 5 0 (n+1) cap',B bad],2,true⟩:Box),⟨5,.lst [],0,false⟩,⟨e,Row.vals us,t,true⟩,⟨5,.lst [],0,false⟩,⟨5,.lst [SV.raw (U8 (IntKind.wrap IntKind.u8 (Int.fdiv n_1 ((2:Int) ^ min (Int.toNat ((56:Int)-(8:Int)*(NI j))) 64))))],1,true⟩,⟨5,.vals (List.take (n*1) (vB out)++[U8 (IntKind.wrap IntKind.u8 (Int.fdiv n_1 ((2:Int) ^ min (Int.toNat ((56:Int)-(8:Int)*(NI j))) (IntKind.bits IntKind.u64))))]),tot',true⟩],E:=E:St })) else Q (SV.tup []) [⟨76,.lst [SV.slc 3 0 n cap,B bad],2,true⟩,⟨5,.lst [],0,false⟩,⟨e,Row.vals us,t,true⟩,⟨5,.vals (vB out),tot,true⟩] E)
 delta WI NI U8 no2 no16
 obtain ⟨w1,w2,w3⟩:=W
 have hl:out.length=o0.length+j:=by rw [ho,List.length_append,List.length_take,digB_len];omega
 have e0:((8*j:Nat):Int)=8*(j:Int):=by omega
 refine condC (fun g=>?_) (fun g=>?_)
 ·have g:j<8:=by simp at g;omega
  have wj:IntKind.wrap .i64 (56-8*(j:Int)-8)=56-8*((j+1:Nat):Int):=by rw [wrap_i64 (by omega)];omega
  refine ⟨v,loadV_cell (P:=X2.P) (T:=32) rfl rfl hv,req_intro (by omega) ⟨by simp [Row.cells];omega,by omega,w2,req_intro (by omega) fun cap' tot' c1 c2=>?_⟩⟩
  have hd:=digB_at v g
  rw [wj,tkB (by omega),show vB out++[Value.int IntKind.u8 (IntKind.wrap IntKind.u8 (Int.fdiv v (2 ^ min (Int.toNat (56-8*(j:Int))) (IntKind.bits IntKind.u64))))]=vB (out++[IntKind.wrap IntKind.u8 (Int.fdiv v (2 ^ min (Int.toNat (56-8*(j:Int))) 64))]) by simp only [vB,List.map_append];rfl]
  refine Lp_re [some 0,some 1,some 2,some 5] (ih (out++[IntKind.wrap IntKind.u8 (Int.fdiv v (2 ^ min (Int.toNat (56-8*(j:Int))) 64))]) (n+1) cap' tot' g ⟨by simp;omega,c1,by omega⟩ ?_) (wkH mr_)
  obtain ⟨d1,d2⟩:=List.getElem?_eq_some_iff.1 hd
  rw [ho,List.append_assoc,List.take_succ_eq_append_getElem d1,d2]
 ·have g:j=8:=by simp at g;omega
  subst g
  rw [show (8:Nat)=(digB v).length from rfl,List.take_length] at ho
  subst ho
  exact hQ _ _ (cloK_intro [some 0,some 1,some 2,some 3] (h n cap tot ⟨w1,w2,w3⟩) (wkH mr_))
theorem n119 {bad:Bool} (hv:us[off]? =some (.int .u64 v)) (W:WOK out n cap tot) (hs:n<=1000000)
  (h:∀ n' cap' tot':Nat,WOK (wdig (out,bad) v).1 n' cap' tot'->KK (.tup []) [⟨76,.lst [.slc 3 0 n' cap',B (wdig (out,bad) v).2],2,true⟩,deadB,⟨e,.vals us,t,true⟩,⟨5,.vals (vB (wdig (out,bad) v).1),tot',true⟩] E) (hQ:∀ s bx',cloK 3 KK s bx' E->Q s bx' E):
  EntB X2 6 Try.f119 [.loc 0 0,.loc 2 off] [⟨76,.lst [.slc 1 0 n cap,B bad],2,true⟩,⟨5,.vals (vB out),tot,true⟩,⟨e,.vals us,t,true⟩] E Q:=by
 refine sm_ (?_:Lp X2 6 Try.f119 [1,0] 3 Q { fr:=some (SV.loc 0 0)::oc 2 off::none::none::oI 56::no16 (no2 (none::[])),bx:=[(⟨76,.lst [SV.slc 1 0 n cap,B bad],2,true⟩:Box),⟨5,.vals (vB out),tot,true⟩,⟨e,Row.vals us,t,true⟩],E:=E:St })
 delta no2 no16
 have key:=Lp_ind okX2 (n:=6) (fn:=Try.f119) (p:=[1,0]) (n0:=3) (K:=Q) (fun q:{q:Nat×List Int×Nat×Nat×Nat//q.1<=8/\WOK q.2.1 q.2.2.1 q.2.2.2.1 q.2.2.2.2/\q.2.1=out++(digB v).take q.1}=>sh119 q.1.2.1 bad q.1.2.2.1 q.1.2.2.2.1 q.1.2.2.2.2 us e t off q.1.1 E) (fun q=>8-q.1.1)
  (fun q ih=>rn119 hv q.2.1 q.2.2.1 q.2.2.2 (by rw [W.len];exact hs) h hQ fun o' n' c' t' hj hW ho=>ih ⟨⟨q.1.1+1,o',n',c',t'⟩,hj,hW,ho⟩ (by show 8-(_+1)<8-_;omega))
 exact Lp_re [some 0,some 1,some 2,some 1] (key ⟨⟨0,out,n,cap,tot⟩,Nat.zero_le _,W,by simp⟩) (wkH mr_)
theorem n121r {bad:Bool} (hv:LoadE X2.P E 3 x off (.raw (.int .i64 v)))
  (h:KK (.tup []) [⟨76,.lst [.slc 1 0 n cap,B (wuns (out,bad) v).2],2,true⟩,⟨5,.vals (vB out),tot,true⟩] E) (hQ:∀ s bx',cloK 2 KK s bx' E->Q s bx' E):
  EntB X2 6 Try.f121 [.loc 0 0,.rp x off] [⟨76,.lst [.slc 1 0 n cap,B bad],2,true⟩,⟨5,.vals (vB out),tot,true⟩] E Q:=by
 refine sm_ (?_:bif bad then Q (SV.tup []) [⟨76,Row.lst [SV.slc 1 0 n cap,B true],2,true⟩,⟨5,Row.vals (vB out),tot,true⟩] E else ∃ (n_1:Int),LoadE X2.P E 3 x off (I n_1)/\Q (SV.tup []) [⟨76,Row.lst [SV.slc 1 0 n cap,B (bif false then true else n_1 !=(0:Int))],2,true⟩,⟨5,Row.vals (vB out),tot,true⟩] E)
 unfold wuns at h
 refine condC (fun g=>?_) (fun g=>⟨v,hv,?_⟩)
 ·subst g
  exact hQ _ _ (cloK_intro [some 0,some 1] h (wkH mr_))
 ·subst g
  exact hQ _ _ (cloK_intro [some 0,some 1] h (wkH mr_))
def sh119r (out:List Int) (bad:Bool) (n cap tot:Nat) (x:Value) (off:Nat) (j:Nat) (E:Mem):St:=⟨[oc 0 0,some (.rp x off),none,none,oI (56-8*(j:Int))]++List.replicate 19 none,[⟨76,.lst [.slc 2 0 n cap,B bad],2,true⟩,deadB,⟨5,.vals (vB out),tot,true⟩],E⟩
theorem rn119r {bad:Bool} {o0:List Int} (hv:LoadE X2.P E 32 x off (.raw (.int .u64 v))) (hj:j<=8) (W:WOK out n cap tot) (ho:out=o0++(digB v).take j) (hs:o0.length<=1000000)
  (h:∀ n' cap' tot':Nat,WOK (o0++digB v) n' cap' tot'->KK (.tup []) [⟨76,.lst [.slc 2 0 n' cap',B bad],2,true⟩,deadB,⟨5,.vals (vB (o0++digB v)),tot',true⟩] E) (hQ:∀ s bx',cloK 2 KK s bx' E->Q s bx' E)
  (ih:∀ (out':List Int) (n' cap' tot':Nat),j<8->WOK out' n' cap' tot'->out'=o0++(digB v).take (j+1)->Lp X2 6 Try.f119 [1,0] 2 Q (sh119r out' bad n' cap' tot' x off (j+1) E)):
  Rnd X2 6 Try.f119 [1,0] 2 Q (sh119r out bad n cap tot x off j E):=by
 refine sm_ (?_:bif decide ((56:Int)-(8:Int)*(NI j)>=0) then ∃ (n_1:Int),LoadE X2.P E 32 x off (SV.raw (Value.int IntKind.u64 n_1))/\req ((0:Int)<=(56:Int)-(8:Int)*(NI j)) (n*1<=List.length (Row.cells (Row.vals (vB out)))/\cap*1<=tot/\n<=cap/\req ((n+1)*1<=140737488355328) (∀ (cap' tot':Nat),n+1<=cap'->cap'*1<=tot'->Lp X2 6 Try.f119 [1,0] 2 Q { fr:=some (SV.loc 0 0)::some (SV.rp x off)::none::none::oI (WI ((56:Int)-(8:Int)*(NI j)-8))::no16 (no2 (none::[])),bx:=[(⟨76,.lst [SV.slc 4 0 (n+1) cap',B bad],2,true⟩:Box),⟨5,.lst [],0,false⟩,⟨5,.lst [],0,false⟩,⟨5,.lst [SV.raw (U8 (IntKind.wrap IntKind.u8 (Int.fdiv n_1 ((2:Int) ^ min (Int.toNat ((56:Int)-(8:Int)*(NI j))) 64))))],1,true⟩,⟨5,.vals (List.take (n*1) (vB out)++[U8 (IntKind.wrap IntKind.u8 (Int.fdiv n_1 ((2:Int) ^ min (Int.toNat ((56:Int)-(8:Int)*(NI j))) (IntKind.bits IntKind.u64))))]),tot',true⟩],E:=E:St })) else Q (SV.tup []) [⟨76,.lst [SV.slc 2 0 n cap,B bad],2,true⟩,⟨5,.lst [],0,false⟩,⟨5,.vals (vB out),tot,true⟩] E)
 delta WI NI U8 no2 no16
 obtain ⟨w1,w2,w3⟩:=W
 have hl:out.length=o0.length+j:=by rw [ho,List.length_append,List.length_take,digB_len];omega
 have e0:((8*j:Nat):Int)=8*(j:Int):=by omega
 refine condC (fun g=>?_) (fun g=>?_)
 ·have g:j<8:=by simp at g;omega
  have wj:IntKind.wrap .i64 (56-8*(j:Int)-8)=56-8*((j+1:Nat):Int):=by rw [wrap_i64 (by omega)];omega
  refine ⟨v,hv,req_intro (by omega) ⟨by simp [Row.cells];omega,by omega,w2,req_intro (by omega) fun cap' tot' c1 c2=>?_⟩⟩
  have hd:=digB_at v g
  rw [wj,tkB (by omega),show vB out++[Value.int IntKind.u8 (IntKind.wrap IntKind.u8 (Int.fdiv v (2 ^ min (Int.toNat (56-8*(j:Int))) (IntKind.bits IntKind.u64))))]=vB (out++[IntKind.wrap IntKind.u8 (Int.fdiv v (2 ^ min (Int.toNat (56-8*(j:Int))) 64))]) by simp only [vB,List.map_append];rfl]
  refine Lp_re [some 0,some 1,some 4] (ih (out++[IntKind.wrap IntKind.u8 (Int.fdiv v (2 ^ min (Int.toNat (56-8*(j:Int))) 64))]) (n+1) cap' tot' g ⟨by simp;omega,c1,by omega⟩ ?_) (wkH mr_)
  obtain ⟨d1,d2⟩:=List.getElem?_eq_some_iff.1 hd
  rw [ho,List.append_assoc,List.take_succ_eq_append_getElem d1,d2]
 ·have g:j=8:=by simp at g;omega
  subst g
  rw [show (8:Nat)=(digB v).length from rfl,List.take_length] at ho
  subst ho
  exact hQ _ _ (cloK_intro [some 0,some 1,some 2] (h n cap tot ⟨w1,w2,w3⟩) (wkH mr_))
theorem n119r {bad:Bool} (hv:LoadE X2.P E 32 x off (.raw (.int .u64 v))) (W:WOK out n cap tot) (hs:n<=1000000)
  (h:∀ n' cap' tot':Nat,WOK (wdig (out,bad) v).1 n' cap' tot'->KK (.tup []) [⟨76,.lst [.slc 2 0 n' cap',B (wdig (out,bad) v).2],2,true⟩,deadB,⟨5,.vals (vB (wdig (out,bad) v).1),tot',true⟩] E) (hQ:∀ s bx',cloK 2 KK s bx' E->Q s bx' E):
  EntB X2 6 Try.f119 [.loc 0 0,.rp x off] [⟨76,.lst [.slc 1 0 n cap,B bad],2,true⟩,⟨5,.vals (vB out),tot,true⟩] E Q:=by
 refine sm_ (?_:Lp X2 6 Try.f119 [1,0] 2 Q { fr:=some (SV.loc 0 0)::some (SV.rp x off)::none::none::oI 56::no16 (no2 (none::[])),bx:=[(⟨76,.lst [SV.slc 1 0 n cap,B bad],2,true⟩:Box),⟨5,.vals (vB out),tot,true⟩],E:=E:St })
 delta no2 no16
 have key:=Lp_ind okX2 (n:=6) (fn:=Try.f119) (p:=[1,0]) (n0:=2) (K:=Q) (fun q:{q:Nat×List Int×Nat×Nat×Nat//q.1<=8/\WOK q.2.1 q.2.2.1 q.2.2.2.1 q.2.2.2.2/\q.2.1=out++(digB v).take q.1}=>sh119r q.1.2.1 bad q.1.2.2.1 q.1.2.2.2.1 q.1.2.2.2.2 x off q.1.1 E) (fun q=>8-q.1.1)
  (fun q ih=>rn119r hv q.2.1 q.2.2.1 q.2.2.2 (by rw [W.len];exact hs) h hQ fun o' n' c' t' hj hW ho=>ih ⟨⟨q.1.1+1,o',n',c',t'⟩,hj,hW,ho⟩ (by show 8-(_+1)<8-_;omega))
 exact Lp_re [some 0,some 1,some 1] (key ⟨⟨0,out,n,cap,tot⟩,Nat.zero_le _,W,by simp⟩) (wkH mr_)
theorem n118 {bad:Bool} (hv:us[off]? =some (.slice b l c)) (hB:Bs E b l c zs) (hl:l<=1000000) (W:WOK out n cap tot) (hs:n<=1000000)
  (h:∀ n' cap' tot':Nat,WOK (wdat (out,bad) zs m).1 n' cap' tot'->KK (.tup []) [⟨76,.lst [.slc 3 0 n' cap',B (wdat (out,bad) zs m).2],2,true⟩,deadB,⟨e,.vals us,t,true⟩,⟨5,.vals (vB (wdat (out,bad) zs m).1),tot',true⟩] E) (hQ:∀ s bx',cloK 3 KK s bx' E->Q s bx' E):
  EntB X2 6 Try.f118 [.loc 0 0,.loc 2 off,I m] [⟨76,.lst [.slc 1 0 n cap,B bad],2,true⟩,⟨5,.vals (vB out),tot,true⟩,⟨e,.vals us,t,true⟩] E Q:=by
 refine sm_ (?_:bif bad then ∃ (base:Option Addr),∃ (len:Nat),∃ (cap_1:Nat),LoadV X2.P 35 us off (L base len cap_1)/\∃ (cs:List Value),(cs=[]\/E (Value.slice base len cap_1) cs)/\len*1<=List.length cs/\(∀ (x:Value),List.Mem x cs->Value.oneCell' x=true)/\n*1<=List.length (Row.cells (Row.vals (vB out)))/\cap*1<=tot/\n<=cap/\req ((n+len)*1<=140737488355328) (∀ (cap' tot':Nat),n+len<=cap'->cap'*1<=tot'->Q (SV.tup []) [⟨76,Row.lst [SV.slc 3 0 (n+len) cap',B true],2,true⟩,⟨5,Row.lst [],0,false⟩,⟨e,Row.vals us,t,true⟩,⟨5,Row.vals (List.take (n*1) (vB out)++List.take (len*1) cs),tot',true⟩] E) else ∃ (base:Option Addr),∃ (len:Nat),∃ (cap_1:Nat),LoadV X2.P 35 us off (L base len cap_1)/\∃ (base:Option Addr),∃ (len_1:Nat),∃ (cap_2:Nat),LoadV X2.P 35 us off (L base len_1 cap_2)/\∃ (cs:List Value),(cs=[]\/E (Value.slice base len_1 cap_2) cs)/\len_1*1<=List.length cs/\(∀ (x:Value),List.Mem x cs->Value.oneCell' x=true)/\n*1<=List.length (Row.cells (Row.vals (vB out)))/\cap*1<=tot/\n<=cap/\req ((n+len_1)*1<=140737488355328) (∀ (cap' tot':Nat),n+len_1<=cap'->cap'*1<=tot'->Q (SV.tup []) [⟨76,Row.lst [SV.slc 3 0 (n+len_1) cap',B (bif false then true else (↑len:Int) !=m)],2,true⟩,⟨5,Row.lst [],0,false⟩,⟨e,Row.vals us,t,true⟩,⟨5,Row.vals (List.take (n*1) (vB out)++List.take (len_1*1) cs),tot',true⟩] E))
 obtain ⟨w1,w2,w3⟩:=W
 have hz:=hB.2.1
 obtain ⟨t1,t2,t3⟩:=hB.src
 have ld:LoadV X2.P 35 us off (L b l c):=loadV_cell rfl rfl hv
 have fin:∀ (cap' tot':Nat),n+l<=cap'->cap'*1<=tot'->Q (.tup []) [⟨76,.lst [.slc 3 0 (n+l) cap',B (bad||(l:Int) !=m)],2,true⟩,deadB,⟨e,.vals us,t,true⟩,⟨5,.vals (List.take (n*1) (vB out)++List.take (l*1) (vB zs)),tot',true⟩] E:=fun cap' tot' c1 c2=>by
  rw [tkB (by omega),tkB (by omega),show vB out++vB zs=vB (out++zs) by simp]
  have:=h (n+l) cap' tot' ⟨by unfold wdat;simp;omega,c1,by omega⟩
  unfold wdat at this
  rw [hz] at this
  exact hQ _ _ (cloK_intro [some 0,some 1,some 2,some 3] this (wkH mr_))
 refine condC (fun g=>?_) (fun g=>?_)
 ·subst g
  exact ⟨b,l,c,ld,_,t1,t2,t3,by simp [Row.cells];omega,by omega,w2,req_intro (by omega) fin⟩
 ·subst g
  exact ⟨b,l,c,ld,b,l,c,ld,_,t1,t2,t3,by simp [Row.cells];omega,by omega,w2,req_intro (by omega) fin⟩
theorem set_same {l:List Box} {x:Box} (h:l[p]? =some x):l.set p x=l:=by
 apply List.ext_getElem?
 intro i
 by_cases hi:p=i
 ·subst hi
  rw [List.getElem?_set_self (List.getElem?_eq_some_iff.1 h).1,h]
 ·rw [List.getElem?_set_ne hi]
abbrev bxW (bx:List Box) (w o:Nat) (o':List Int×Bool) (n' cap' tot':Nat):List Box:=(bx.set w ⟨76,.lst [.slc bx.length 0 n' cap',B o'.2],2,true⟩).set o deadB++[⟨5,.vals (vB o'.1),tot',true⟩]
abbrev bxN (bx:List Box) (w:Nat) (o':List Int×Bool) (n' cap' tot':Nat):List Box:=bx.set w ⟨76,.lst [.slc bx.length 0 n' cap',B o'.2],2,true⟩++[⟨5,.vals (vB o'.1),tot',true⟩]
structure WBx (bx:List Box) (w o:Nat) (out:List Int) (bad:Bool) (n cap tot:Nat):Prop where
 hw:bx[w]? =some ⟨76,.lst [.slc o 0 n cap,B bad],2,true⟩
 ho:bx[o]? =some ⟨5,.vals (vB out),tot,true⟩
 ok:WOK out n cap tot
 sz:n<=1000000
theorem WBx.ne {bad:Bool} (h:WBx bx w o out bad n cap tot):w≠o:=by
 rintro rfl
 have:=h.hw.symm.trans h.ho
 cases this
structure PBx (bx:List Box) (p off:Nat) (e:TypeId) (row:Row) (t:Nat) (v:Value):Prop where
 hp:bx[p]? =some ⟨e,row,t,true⟩
 hv:row.cells[off]? =some (.raw v)
 nb:∀ b,v≠.bool b
 nu:∀ z,v≠.int .u8 z
theorem PBx.ne_w {e:TypeId} {v:Value} {s:SV} {bad:Bool} (h:PBx bx p off e row t v) (hs:∀ u,s= .raw u->∃ a l c,u= .slice a l c) (hn:∀ a l c,v≠.slice a l c) (hw:bx[w]? =some ⟨76,.lst [s,B bad],2,true⟩):w≠p:=by
 rintro rfl
 have e1:=hw.symm.trans h.hp
 simp only [Option.some.injEq,Box.mk.injEq] at e1
 obtain ⟨-,e2, -⟩:=e1
 have hv:=h.hv
 rw [← e2] at hv
 simp only [Row.cells] at hv
 match off,hv with
 | 0,hv=>
  simp at hv
  obtain ⟨a,l,c,q⟩:=hs v hv
  exact hn a l c q
 | 1,hv=>simp at hv;exact h.nb _ hv.symm
 | n+2,hv=>simp at hv
theorem PBx.ne_o {e:TypeId} {v:Value} (h:PBx bx p off e row t v) (ho:bx[o]? =some ⟨5,.vals (vB out),tot,true⟩):o≠p:=by
 rintro rfl
 have e1:=ho.symm.trans h.hp
 simp only [Option.some.injEq,Box.mk.injEq] at e1
 obtain ⟨-,e2, -⟩:=e1
 have hv:=h.hv
 rw [← e2] at hv
 simp only [Row.cells,List.map_map,List.getElem?_map,Option.map_eq_some_iff] at hv
 obtain ⟨z,_,q⟩:=hv
 simp at q
 exact h.nu z q.symm
theorem wFrame {bad:Bool} {e:TypeId} {v:Value} {K:KT} (W:WBx bx w o out bad n cap tot) (H:PBx bx p off e row t v) (hne:w≠p) (hr:SV.valL rest=some restv)
    (h:∀ us:List Value,us[off]? =some v->CallSem Try.prog f (.loc 0 0::.loc 2 off::rest) [⟨76,.lst [.slc 1 0 n cap,B bad],2,true⟩,⟨5,.vals (vB out),tot,true⟩,⟨e,.vals us,t,true⟩] E (cloK 3 fun s bs E'=>s= .tup []/\
      ((∃ (o':List Int×Bool) (n' cap' tot':Nat),bs=[⟨76,.lst [.slc 3 0 n' cap',B o'.2],2,true⟩,deadB,⟨e,.vals us,t,true⟩,⟨5,.vals (vB o'.1),tot',true⟩]/\K (.tup []) (bxW bx w o o' n' cap' tot') E')\/
       (∃ b',bs=[⟨76,.lst [.slc 1 0 n cap,B b'],2,true⟩,⟨5,.vals (vB out),tot,true⟩,⟨e,.vals us,t,true⟩]/\K (.tup []) (bx.set w ⟨76,.lst [.slc o 0 n cap,B b'],2,true⟩) E')))):
    CallSem Try.prog f (.loc w 0::.loc p off::rest) bx E K:=by
  have h1:=W.ne
  have h3:=H.ne_o W.ho
  refine CallSem.handO (args':=.loc 0 0::.loc 2 off::rest) (σ:=[w,o,p]) (bxs:=[⟨76,.lst [.slc 1 0 n cap,B bad],2,true⟩,⟨5,.vals (vB out),tot,true⟩,deadB]) (k:=2) .vals (fun _=>rfl) H.hp rfl (by simp [h1,hne,h3]) rfl (fun i b hi hb=>?_) ?_ (fun us _ h2=>?_)
  · match i,hb with
    | 0,hb=>
      simp only [List.getElem?_cons_zero,Option.some.injEq] at hb;subst hb
      exact ⟨rfl,w,rfl,by simpa [Box.ren,Row.ren,SV.renL,SV.ren,renF] using W.hw⟩
    | 1,hb=>
      simp only [List.getElem?_cons_succ,List.getElem?_cons_zero,Option.some.injEq] at hb;subst hb
      exact ⟨rfl,o,rfl,by simpa [Box.ren,Row.ren,SV.renL,SV.ren,renF] using W.ho⟩
    | 2,hb=>exact absurd rfl hi
    | j+3,hb=>simp at hb
  · simp only [SV.renL,SV.ren,renF,List.getElem?_cons_zero,List.getElem?_cons_succ,renL_of_val _ _ _ hr]
  · have hp:=(List.getElem?_eq_some_iff.1 H.hp).1
    refine CallSem.clo_mono (h us (h2 off v H.hv)) ?_
    rintro s bs E' ⟨rfl,⟨o',n',cap',tot',rfl,hK⟩|⟨b',rfl,hK⟩⟩
    · refine ⟨.vals us,row,⟨rfl,Cl.id⟩,?_⟩
      simp only [SV.ren,SV.renL,merge,setAll,List.take,List.drop,List.map,List.length_cons,List.length_nil,Box.ren,Row.ren,renF,List.getElem?_cons_zero,List.getElem?_cons_succ]
      rw [set_app_over (by simpa using hp),set_same (by rw [List.getElem?_set_ne h3,List.getElem?_set_ne hne];exact H.hp)]
      simpa using hK
    · refine ⟨.vals us,row,⟨rfl,Cl.id⟩,?_⟩
      simp only [SV.ren,SV.renL,merge,setAll,List.take,List.drop,List.map,List.length_cons,List.length_nil,Box.ren,Row.ren,renF,List.getElem?_cons_zero,List.getElem?_cons_succ]
      rw [set_app_over (by simpa using hp),set_same (x:=⟨e,row,t,true⟩) (by rw [List.getElem?_set_ne h3,List.getElem?_set_ne hne];exact H.hp),set_same (p:=o) (by rw [List.getElem?_set_ne h1];exact W.ho)]
      simpa using hK
theorem wFrameR {bad:Bool} {K:KT} (W:WBx bx w o out bad n cap tot) (hr:SV.valL rest=some restv)
    (h:CallSem Try.prog f (.loc 0 0::.rp y off::rest) [⟨76,.lst [.slc 1 0 n cap,B bad],2,true⟩,⟨5,.vals (vB out),tot,true⟩] E (cloK 2 fun s bs E'=>s= .tup []/\
      ((∃ (o':List Int×Bool) (n' cap' tot':Nat),bs=[⟨76,.lst [.slc 2 0 n' cap',B o'.2],2,true⟩,deadB,⟨5,.vals (vB o'.1),tot',true⟩]/\K (.tup []) (bxW bx w o o' n' cap' tot') E')\/
       (∃ b',bs=[⟨76,.lst [.slc 1 0 n cap,B b'],2,true⟩,⟨5,.vals (vB out),tot,true⟩]/\K (.tup []) (bx.set w ⟨76,.lst [.slc o 0 n cap,B b'],2,true⟩) E')))):
    CallSem Try.prog f (.loc w 0::.rp y off::rest) bx E K:=by
  have h1:=W.ne
  refine CallSem.hand (σ:=[w,o]) (bxs:=[⟨76,.lst [.slc 1 0 n cap,B bad],2,true⟩,⟨5,.vals (vB out),tot,true⟩]) ⟨by simp [h1],rfl,fun i b hb=>?_⟩ (args':=.loc 0 0::.rp y off::rest) ?_ (CallSem.clo_mono h ?_)
  · match i,hb with
    | 0,hb=>
      simp only [List.getElem?_cons_zero,Option.some.injEq] at hb;subst hb
      exact ⟨rfl,w,rfl,by simpa [Box.ren,Row.ren,SV.renL,SV.ren,renF] using W.hw⟩
    | 1,hb=>
      simp only [List.getElem?_cons_succ,List.getElem?_cons_zero,Option.some.injEq] at hb;subst hb
      exact ⟨rfl,o,rfl,by simpa [Box.ren,Row.ren,SV.renL,SV.ren,renF] using W.ho⟩
    | j+2,hb=>simp at hb
  · simp only [SV.renL,SV.ren,renF,List.getElem?_cons_zero,List.getElem?_cons_succ,renL_of_val _ _ _ hr]
  · rintro s bs E' ⟨rfl,⟨o',n',cap',tot',rfl,hK⟩|⟨b',rfl,hK⟩⟩
    · simp only [SV.ren,SV.renL,merge,setAll,List.take,List.drop,List.map,List.length_cons,List.length_nil,Box.ren,Row.ren,renF,List.getElem?_cons_zero,List.getElem?_cons_succ]
      simpa using hK
    · simp only [SV.ren,SV.renL,merge,setAll,List.take,List.drop,List.map,List.length_cons,List.length_nil,Box.ren,Row.ren,renF,List.getElem?_cons_zero,List.getElem?_cons_succ]
      rw [set_same (p:=o) (by rw [List.getElem?_set_ne h1];exact W.ho)]
      simpa using hK
theorem wFrameN {bad:Bool} {e:TypeId} {v:Value} {K:KT} (hw:bx[w]? =some ⟨76,.lst [L none 0 0,B bad],2,true⟩) (H:PBx bx p off e row t v) (hne:w≠p) (hr:SV.valL rest=some restv)
  (h:∀ us:List Value,us[off]? =some v->CallSem Try.prog f (.loc 0 0::.loc 1 off::rest) [⟨76,.lst [L none 0 0,B bad],2,true⟩,⟨e,.vals us,t,true⟩] E (cloK 2 fun s bs E'=>s= .tup []/\
   (∃ (o':List Int×Bool) (n' cap' tot':Nat),bs=[⟨76,.lst [.slc 2 0 n' cap',B o'.2],2,true⟩,⟨e,.vals us,t,true⟩,⟨5,.vals (vB o'.1),tot',true⟩]/\K (.tup []) (bxN bx w o' n' cap' tot') E'))):
  CallSem Try.prog f (.loc w 0::.loc p off::rest) bx E K:=by
 refine CallSem.handO (args':=.loc 0 0::.loc 1 off::rest) (σ:=[w,p]) (bxs:=[⟨76,.lst [L none 0 0,B bad],2,true⟩,deadB]) (k:=1) .vals (fun _=>rfl) H.hp rfl (by simp [hne]) rfl (fun i b hi hb=>?_) ?_ (fun us _ h2=>?_)
 ·match i,hb with
  | 0,hb=>
   simp only [List.getElem?_cons_zero,Option.some.injEq] at hb;subst hb
   exact ⟨rfl,w,rfl,by simpa [Box.ren,Row.ren,SV.renL,SV.ren,renF] using hw⟩
  | 1,hb=>exact absurd rfl hi
  | j+2,hb=>simp at hb
 ·simp only [SV.renL,SV.ren,renF,List.getElem?_cons_zero,List.getElem?_cons_succ,renL_of_val _ _ _ hr]
 ·have hp:=(List.getElem?_eq_some_iff.1 H.hp).1
  refine CallSem.clo_mono (h us (h2 off v H.hv)) ?_
  rintro s bs E' ⟨rfl,o',n',cap',tot',rfl,hK⟩
  refine ⟨.vals us,row,⟨rfl,Cl.id⟩,?_⟩
  simp only [SV.ren,SV.renL,merge,setAll,List.take,List.drop,List.map,List.length_cons,List.length_nil,Box.ren,Row.ren,renF,List.getElem?_cons_zero,List.getElem?_cons_succ]
  rw [set_app_over (by simpa using hp),set_same (by rw [List.getElem?_set_ne hne];exact H.hp)]
  simpa using hK
def wS (bx:List Box) (x:SV) (kn:Nat->Bool->Prop) (k:Nat->Nat->List Int->Bool->Nat->Nat->Prop):Prop:=match x with
 | .loc w 0=>match bx[w]? with
  | some ⟨e,.lst [s,.raw (.bool bad)],t,true⟩=>match s with
   | .slc o 0 n cap=>match bx[o]? with
    | some ⟨e5,.vals vs,tot,true⟩=>∃ out,((e=76/\t=2/\e5=5/\vs=vB out)/\WOK out n cap tot/\n<=1000000)/\k w o out bad n cap
    | _=>False
   | .raw (.slice none 0 0)=>(e=76/\t=2)/\kn w bad
   | _=>False
  | _=>False
 | _=>False
theorem wS_elim {x:SV} {kn:Nat->Bool->Prop} {k:Nat->Nat->List Int->Bool->Nat->Nat->Prop} (h:wS bx x kn k):
  (∃ w o out bad n cap tot,x= .loc w 0/\WBx bx w o out bad n cap tot/\k w o out bad n cap)\/(∃ w bad,x= .loc w 0/\bx[w]? =some ⟨76,.lst [L none 0 0,B bad],2,true⟩/\kn w bad):=by
 unfold wS at h
 split at h
 case h_2=>exact h.elim
 rename_i w
 split at h
 case h_2=>exact h.elim
 rename_i e s bad t hw
 split at h
 ·rename_i o n cap
  split at h
  case h_2=>exact h.elim
  rename_i e5 vs tot ho
  obtain ⟨out,⟨⟨rfl,rfl,rfl,rfl⟩,h1,h2⟩,hk⟩:=h
  exact .inl ⟨w,o,out,bad,n,cap,tot,rfl,⟨hw,ho,h1,h2⟩,hk⟩
 ·obtain ⟨⟨rfl,rfl⟩,hk⟩:=h
  exact .inr ⟨w,bad,rfl,hw,hk⟩
 ·exact h.elim
def ptK (q:IntKind) (T:TypeId) (bx:List Box) (E:Mem) (x:SV) (k:Int->Prop):Prop:=match x with
 | .loc p off=>match bx[p]? with
  | some ⟨_,r,_,true⟩=>match r with
   | .lst cells=>match cells[off]? with
    | some (.raw (.int q' v))=>q'=q/\k v
    | _=>False
   | .vals vs=>∃ v,vs[off]? =some (.int q v)/\k v
  | _=>False
 | .rp y off=>∃ v,LoadE Try.prog E T y off (.raw (.int q v))/\k v
 | _=>False
theorem ptK_elim {q:IntKind} (hq:q≠.u8) {T:TypeId} {x:SV} {k:Int->Prop} (h:ptK q T bx E x k):
  ∃ v,k v/\((∃ p off e row t,x= .loc p off/\PBx bx p off e row t (.int q v))\/(∃ y off,x= .rp y off/\LoadE Try.prog E T y off (.raw (.int q v)))):=by
 have nu:∀ v z,Value.int q v≠.int .u8 z:=fun v z e=>by cases e;exact hq rfl
 unfold ptK at h
 split at h
 ·rename_i p off
  split at h
  case h_2=>exact h.elim
  rename_i e r t hp
  split at h
  ·rename_i cells
   split at h
   case h_2=>exact h.elim
   rename_i q' v hc
   obtain ⟨rfl,hk⟩:=h
   exact ⟨v,hk,.inl ⟨p,off,e,_,t,rfl,hp,hc,fun b e=>(by cases e),nu v⟩⟩
  ·rename_i vs
   obtain ⟨v,hv,hk⟩:=h
   exact ⟨v,hk,.inl ⟨p,off,e,_,t,rfl,hp,by simp [Row.cells,hv],fun b e=>(by cases e),nu v⟩⟩
 ·rename_i y off
  obtain ⟨v,hv,hk⟩:=h
  exact ⟨v,hk,.inr ⟨y,off,rfl,hv⟩⟩
 ·exact h.elim
def ptB (bx:List Box) (E:Mem) (x:SV) (k:List Int->Prop):Prop:=match x with
 | .loc p off=>match bx[p]? with
  | some ⟨_,.lst cells,_,true⟩=>match cells[off]? with
   | some (.raw (.slice b l c))=>∃ zs,(Bs E b l c zs/\l<=1000000)/\k zs
   | _=>False
  | _=>False
 | _=>False
theorem ptB_elim {x:SV} {k:List Int->Prop} (h:ptB bx E x k):
  ∃ p off e cells t b l c zs,x= .loc p off/\PBx bx p off e (.lst cells) t (.slice b l c)/\Bs E b l c zs/\l<=1000000/\k zs:=by
 unfold ptB at h
 split at h
 case h_2=>exact h.elim
 rename_i p off
 split at h
 case h_2=>exact h.elim
 rename_i e cells t hp
 split at h
 case h_2=>exact h.elim
 rename_i b l c hc
 obtain ⟨zs,⟨h1,h2⟩,hk⟩:=h
 exact ⟨p,off,e,cells,t,b,l,c,zs,rfl,⟨hp,hc,fun b e=>(by cases e),fun z e=>(by cases e)⟩,h1,h2,hk⟩
noncomputable def tabBW:CallT:=fun f args bx E K=>match f with
 | 120=>d4 args fun x0 x1 x2 x3=>dI x2 fun lo=>dI x3 fun hi=>(-10000000000000<=lo/\hi<=10000000000000)/\wS bx x0
   (fun w bad=>(match x1 with | .loc _ _=>True|_=>False)/\ptK .i64 3 bx E x1 fun v=>∀ (o':List Int×Bool) (n' cap' tot':Nat),Hyp (wnum ([],bad) v lo hi=o')->WOK o'.1 n' cap' tot'->K (.tup []) (bxN bx w o' n' cap' tot') E)
   (fun w o out bad _ _=>ptK .i64 3 bx E x1 fun v=>∀ (o':List Int×Bool) (n' cap' tot':Nat),Hyp (wnum (out,bad) v lo hi=o')->WOK o'.1 n' cap' tot'->K (.tup []) (bxW bx w o o' n' cap' tot') E)
 | 121=>d2 args fun x0 x1=>wS bx x0 (fun _ _=>False) (fun w o out bad n cap=>ptK .i64 3 bx E x1 fun v=>K (.tup []) (bx.set w ⟨76,.lst [.slc o 0 n cap,B (bad||v !=0)],2,true⟩) E)
 | 119=>d2 args fun x0 x1=>wS bx x0 (fun _ _=>False) (fun w o out bad _ _=>ptK .u64 32 bx E x1 fun v=>∀ (o':List Int×Bool) (n' cap' tot':Nat),Hyp (wdig (out,bad) v=o')->WOK o'.1 n' cap' tot'->K (.tup []) (bxW bx w o o' n' cap' tot') E)
 | 118=>d3 args fun x0 x1 x2=>dI x2 fun m=>wS bx x0 (fun _ _=>False) (fun w o out bad _ _=>ptB bx E x1 fun zs=>∀ (o':List Int×Bool) (n' cap' tot':Nat),Hyp (wdat (out,bad) zs m=o')->WOK o'.1 n' cap' tot'->K (.tup []) (bxW bx w o o' n' cap' tot') E)
 | _=>False
theorem tabBW_ok:∀ f args bx E K,tabBW f args bx E K->CallSem Try.prog f args bx E K:=by
 intro f args bx E K h
 unfold tabBW at h
 split at h
 ·obtain ⟨x0,x1,x2,x3,rfl,h1⟩:=d4_elim h
  obtain ⟨lo,rfl,h2⟩:=dI_elim h1
  obtain ⟨hi,rfl,hb,h3⟩:=dI_elim h2
  clear h h1 h2
  rcases wS_elim h3 with ⟨w,o,out,bad,n,cap,tot,rfl,W,h4⟩|⟨w,bad,rfl,hw,hx,h4⟩
  ·obtain ⟨v,hk,⟨p,off,e,row,t,rfl,H⟩|⟨y,off,rfl,hl⟩⟩:=ptK_elim (by decide) h4
   ·refine wFrame (rest:=[I lo,I hi]) (restv:=[.int .i64 lo,.int .i64 hi]) W H (H.ne_w (fun u e=>by cases e) (fun _ _ _ e=>by cases e) W.hw) rfl fun us hus=>?_
    exact bsm okX1 Try.func120 (n120 W.ok W.sz hb hus (fun o' n' cap' tot' q r=>⟨rfl,.inl ⟨o',n',cap',tot',rfl,hk o' n' cap' tot' q r⟩⟩) (fun _ _ q=>q))
   ·refine wFrameR (rest:=[I lo,I hi]) (restv:=[.int .i64 lo,.int .i64 hi]) W rfl ?_
    exact bsm okX1 Try.func120 (n120r W.ok W.sz hb hl (fun o' n' cap' tot' q r=>⟨rfl,.inl ⟨o',n',cap',tot',rfl,hk o' n' cap' tot' q r⟩⟩) (fun _ _ q=>q))
  ·obtain ⟨v,hk,⟨p,off,e,row,t,rfl,H⟩|⟨y,off,rfl,hl⟩⟩:=ptK_elim (by decide) h4
   ·refine wFrameN (rest:=[I lo,I hi]) (restv:=[.int .i64 lo,.int .i64 hi]) hw H (H.ne_w (fun u e=>by cases e;exact ⟨_,_,_,rfl⟩) (fun _ _ _ e=>by cases e) hw) rfl fun us hus=>?_
    exact bsm okX1 Try.func120 (n120n hb hus (fun o' n' cap' tot' q r=>⟨rfl,o',n',cap',tot',rfl,hk o' n' cap' tot' q r⟩) (fun _ _ q=>q))
   ·exact hx.elim
 ·obtain ⟨x0,x1,rfl,h1⟩:=d2_elim h
  rcases wS_elim h1 with ⟨w,o,out,bad,n,cap,tot,rfl,W,h4⟩|⟨w,bad,rfl,hw,hx⟩
  ·obtain ⟨v,hk,⟨p,off,e,row,t,rfl,H⟩|⟨y,off,rfl,hl⟩⟩:=ptK_elim (by decide) h4
   ·refine wFrame (rest:=[]) (restv:=[]) W H (H.ne_w (fun u e=>by cases e) (fun _ _ _ e=>by cases e) W.hw) rfl fun us hus=>?_
    exact bsm okX2 Try.func121 (n121 hus ⟨rfl,.inr ⟨_,rfl,hk⟩⟩ (fun _ _ q=>q))
   ·refine wFrameR (rest:=[]) (restv:=[]) W rfl ?_
    exact bsm okX2 Try.func121 (n121r hl ⟨rfl,.inr ⟨_,rfl,hk⟩⟩ (fun _ _ q=>q))
  ·exact hx.elim
 ·obtain ⟨x0,x1,rfl,h1⟩:=d2_elim h
  rcases wS_elim h1 with ⟨w,o,out,bad,n,cap,tot,rfl,W,h4⟩|⟨w,bad,rfl,hw,hx⟩
  ·obtain ⟨v,hk,⟨p,off,e,row,t,rfl,H⟩|⟨y,off,rfl,hl⟩⟩:=ptK_elim (by decide) h4
   ·refine wFrame (rest:=[]) (restv:=[]) W H (H.ne_w (fun u e=>by cases e) (fun _ _ _ e=>by cases e) W.hw) rfl fun us hus=>?_
    exact bsm okX2 Try.func119 (n119 hus W.ok W.sz (fun n' cap' tot' r=>⟨rfl,.inl ⟨_,n',cap',tot',rfl,hk _ n' cap' tot' rfl r⟩⟩) (fun _ _ q=>q))
   ·refine wFrameR (rest:=[]) (restv:=[]) W rfl ?_
    exact bsm okX2 Try.func119 (n119r hl W.ok W.sz (fun n' cap' tot' r=>⟨rfl,.inl ⟨_,n',cap',tot',rfl,hk _ n' cap' tot' rfl r⟩⟩) (fun _ _ q=>q))
  ·exact hx.elim
 ·obtain ⟨x0,x1,x2,rfl,h1⟩:=d3_elim h
  obtain ⟨m,rfl,h2⟩:=dI_elim h1
  rcases wS_elim h2 with ⟨w,o,out,bad,n,cap,tot,rfl,W,h4⟩|⟨w,bad,rfl,hw,hx⟩
  ·obtain ⟨p,off,e,cells,t,b,l,c,zs,rfl,H,hB,hl,hk⟩:=ptB_elim h4
   refine wFrame (rest:=[I m]) (restv:=[.int .i64 m]) W H ?_ rfl fun us hus=>?_
   ·rintro rfl
    have e1:=W.hw.symm.trans H.hp
    simp only [Option.some.injEq,Box.mk.injEq,Row.lst.injEq] at e1
    obtain ⟨-,rfl, -⟩:=e1
    have hv:=H.hv
    simp only [Row.cells] at hv
    match off,hv with
    | 0,hv=>simp at hv
    | 1,hv=>simp at hv
    | n+2,hv=>simp at hv
   ·exact bsm okX2 Try.func118 (n118 hus hB hl W.ok W.sz (fun n' cap' tot' r=>⟨rfl,.inl ⟨_,n',cap',tot',rfl,hk _ n' cap' tot' rfl r⟩⟩) (fun _ _ q=>q))
  ·exact hx.elim
 ·exact h.elim
def rnum (zs:List Int) (s:Int×Int) (lo hi:Int):Int×(Int×Int):=
 if s.2≠0 then (lo,s) else match rd zs s.1 with
  | (v,e',er)=>if er≠0 then (lo,(s.1,er)) else if v<lo\/v>hi then (lo,(s.1,3)) else (v,(e',0))
def rtake (zs:List Int) (s:Int×Int) (m:Int):List Int×(Int×Int):=
 if s.2≠0 then (List.replicate m.toNat 0,s) else if zs.length-s.1<m then (List.replicate m.toNat 0,(s.1,11)) else ((zs.drop s.1.toNat).take m.toNat,(s.1+m,0))
theorem rdF_end {a:Int} {ws:List Int}:∀ {k i:Nat} {u n e':Int},rdF a ws k i u=(n,e',0)->a+i<=e'/\e'<=a+ws.length
 | 0,i,u,n,e',h=>by simp [rdF] at h
 | k+1,i,u,n,e',h=>by
  unfold rdF at h
  split at h
  ·simp at h
  ·split at h
   ·split at h
    ·simp at h
    ·have:=rdF_end h;omega
   ·split at h
    ·simp only [Prod.mk.injEq] at h;omega
    ·simp at h
theorem rd_end {n e':Int} (h:rd zs a=(n,e',0)):0<=a/\a<=e'/\e'<=zs.length:=by
 unfold rd at h
 split at h
 ·simp at h
 ·have:=rdF_end h
  rw [List.length_drop] at this
  omega
theorem layV_layV (h:off<us.length):layV (layV us off [x]) off [y]=layV us off [y]:=by
 unfold layV
 have h1:(us.take off).length=off:=by rw [List.length_take];omega
 have e1:(us.take off++[x]++us.drop (off+1)).take off=us.take off:=by
  rw [List.append_assoc];exact List.take_left' h1
 have e2:(us.take off++[x]++us.drop (off+1)).drop (off+1)=us.drop (off+1):=by
  rw [List.drop_left' (by rw [List.length_append,h1];rfl)]
 simp only [List.length_cons,List.length_nil] at e1 e2 ⊢
 rw [e1,e2]
theorem layV_len (h:off<us.length):(layV us off [x]).length=us.length:=by
 unfold layV;simp;omega
theorem layV_get (h:off<us.length):(layV us off [x])[off]? =some x:=by
 unfold layV
 have h1:(us.take off).length=off:=by rw [List.length_take];omega
 rw [List.append_assoc,List.getElem?_append_right (by omega),h1,Nat.sub_self];rfl
noncomputable def tabX3:FuncId->List SV->Mem->(SV->Mem->Prop)->Prop:=fun f args E K=>match f with
 | 61=>d2 args fun x0 x1=>dS x0 fun b1 l2 c3=>dI x1 fun a4=>∃ (zs:List Int),Bs E b1 l2 c3 zs/\l2<=100000/\(∀ (n end' e:Int) (E':Mem),Mem.le E E'->Hyp (rd zs a4=(n,end',e))->K (.tup [I n,I end',I e]) E')
 | _=>False
theorem tabX3_ok:TabOK Try.prog tabX3:=by
 intro f args E K h
 unfold tabX3 at h
 split at h
 ·replace h:=d2_elim h
  obtain ⟨x0,x1,rfl,h⟩:=h
  replace h:=dS_elim h
  obtain ⟨b1,l2,c3,rfl,h⟩:=h
  replace h:=dI_elim h
  obtain ⟨a4,rfl,h⟩:=h
  obtain ⟨zs,g0,g1,h⟩:=h
  exact TabSem.congr (valL_cons rfl (valL_cons rfl rfl)) (esm okW7 Try.func61 rfl (s15 g0 g1 h))
 ·exact h.elim
noncomputable def X3:Cx:={ P:=Try.prog,inl:=fun f=>List.contains [] f,tab:=tabX3,isB:=fun _=>false,tabB:=fun _ _ _ _ _=>False,opt:={ unroll:=0,carry:=[] },muts:=(fun o=>match o with | .call _=>true|o=>mutsD o) }
theorem okX3:CxOK X3:=CxOK.four tabX3_ok (by kernel_rfl) (okInl (by kernel_rfl)) (fun _ _ _ _ _ h=>h.elim)
theorem Bs.sub' {E':Mem} {b':Option Addr} {lo hi:Nat} (h:Bs E b l c zs)
  (hF:∀ cs,E (.slice b l c) cs->E' (.slice b' (hi-lo) (c-lo)) (List.take ((hi-lo)*1) (List.drop (lo*1) cs))) (hN:b'.isNone=b.isNone) (h1:lo<=hi) (h2:hi<=l):Bs E' b' (hi-lo) (c-lo) ((zs.drop lo).take (hi-lo)):=by
 have hlen:=h.2.1
 refine ⟨?_,by rw [List.length_take,List.length_drop,hlen];omega,by have:=h.2.2.1;omega,fun z hz=>h.2.2.2.1 z (List.drop_subset _ _ (List.take_subset _ _ hz)),fun e=>?_⟩
 ·rcases h.1 with q|q
  ·exact .inl (by rw [q];simp)
  ·refine .inr ?_
   have:=hF _ q
   rw [Nat.mul_one,Nat.mul_one,← List.map_drop,← List.map_take] at this
   exact this
 ·have :zs=[]:=h.2.2.2.2 (by cases b with |none=>rfl|some x=>rw [e] at hN;cases hN)
  rw [this];simp
theorem n125 (hB:Bs E b l c zs) (hl:l<=100000) (ha:0<=a/\a<=l) (ho:off<us.length)
  (h:∀ (v:Int) (s':Int×Int) (E':Mem),Mem.le E E'->Hyp (rnum zs (a,e1) lo hi=(v,s'))->0<=s'.1/\s'.1<=l->KK (.tup []) [⟨81,.lst [L b l c,I s'.1,I s'.2],3,true⟩,⟨e,.vals (layV us off [.int .i64 v]),t,true⟩] E') (hQ:∀ s bx' E',cloK 2 KK s bx' E'->Q s bx' E'):
  EntB X3 6 Try.f125 [.loc 0 0,.loc 1 off,I lo,I hi] [⟨81,.lst [L b l c,I a,I e1],3,true⟩,⟨e,.vals us,t,true⟩] E Q:=by
 refine sm_ (?_:off+1<=List.length us/\bif e1 !=(0:Int) then Q (SV.tup []) [⟨81,Row.lst [L b l c,I a,I e1],3,true⟩,⟨e,Row.vals (layV us off [Value.int IntKind.i64 lo]),t,true⟩] E else ∃ (zs:List Int),Bs E b l c zs/\l<=100000/\∀ (n end' e_1:Int) (E':Mem),Mem.le E E'->Hyp (rd zs a=(n,end',e_1))->Mem.le E E'/\Sx.Alike (AlikeT.n (AlikeT.n (AlikeT.n AlikeT.l al2) (AlikeT.n al2 (AlikeT.n al2 AlikeT.l))) (AlikeT.n (AlikeT.n (AlikeT.n AlikeT.l al2) AlikeT.l) (AlikeT.n al2 AlikeT.l))) (bif e_1 !=(0:Int) then Q (SV.tup []) [⟨81,Row.lst [L b l c,I a,I e_1],3,true⟩,⟨e,Row.vals (layV us off [Value.int IntKind.i64 lo]),t,true⟩] E' else bif decide (n<lo) then Q (SV.tup []) [⟨81,Row.lst [L b l c,I a,I (3:Int)],3,true⟩,⟨e,Row.vals (layV us off [Value.int IntKind.i64 lo]),t,true⟩] E' else bif bif false then true else decide (n>hi) then Q (SV.tup []) [⟨81,Row.lst [L b l c,I a,I (3:Int)],3,true⟩,⟨e,Row.vals (layV us off [Value.int IntKind.i64 lo]),t,true⟩] E' else off+1<=List.length (layV us off [Value.int IntKind.i64 lo])/\Q (SV.tup []) [⟨81,Row.lst [L b l c,I end',I e1],3,true⟩,⟨e,Row.vals (layV (layV us off [Value.int IntKind.i64 lo]) off [Value.int IntKind.i64 n]),t,true⟩] E'))
 have hz:=hB.2.1
 refine ⟨by omega,condC (fun g=>?_) (fun g=>⟨zs,hB,hl,fun n end' er E' hE hy=>⟨hE,alike ?_⟩⟩)⟩
 ·have g:e1≠0:=by simpa using g
  exact hQ _ _ _ (cloK_intro [some 0,some 1] (h lo (a,e1) E mr_ (by show rnum zs (a,e1) lo hi=_;unfold rnum;exact if_pos g) ha) (wkH mr_))
 ·have g:e1=0:=by simpa using g
  subst g
  have hy:rd zs a=(n,end',er):=hy
  have er0:rnum zs (a,0) lo hi=if er≠0 then (lo,(a,er)) else if n<lo\/n>hi then (lo,(a,3)) else (n,(end',0)):=by
   unfold rnum
   rw [if_neg (by simp)]
   simp only [hy]
  refine condC (fun g=>?_) (fun g=>condC (fun g2=>?_) (fun g2=>condC (fun g3=>?_) (fun g3=>⟨by rw [layV_len ho];omega,?_⟩)))
  ·have g:er≠0:=by simpa using g
   rw [if_pos g] at er0
   exact hQ _ _ _ (cloK_intro [some 0,some 1] (h lo (a,er) E' hE er0 ha) (wkH mr_))
  ·have g2:n<lo:=by simpa using g2
   rw [if_neg (by simpa using g),if_pos (.inl g2)] at er0
   exact hQ _ _ _ (cloK_intro [some 0,some 1] (h lo (a,3) E' hE er0 ha) (wkH mr_))
  ·have g3:n>hi:=by simpa using g3
   rw [if_neg (by simpa using g),if_pos (.inr g3)] at er0
   exact hQ _ _ _ (cloK_intro [some 0,some 1] (h lo (a,3) E' hE er0 ha) (wkH mr_))
  ·have g1:er=0:=by simpa using g
   have g2:¬ n<lo:=by simpa using g2
   have g3:¬ n>hi:=by simpa using g3
   subst g1
   rw [if_neg (by simp),if_neg (by omega)] at er0
   have he:=rd_end hy
   rw [layV_layV ho]
   exact hQ _ _ _ (cloK_intro [some 0,some 1] (h n (end',0) E' hE er0 ⟨by show 0<=end';omega,by show end'<=l;omega⟩) (wkH mr_))
theorem n126 (ho:off<us.length) (h:KK (.tup []) [⟨81,.lst [L b l c,I a,I e1],3,true⟩,⟨e,.vals (layV us off [.int .i64 0]),t,true⟩] E) (hQ:∀ s bx' E',cloK 2 KK s bx' E'->Q s bx' E'):
  EntB X3 6 Try.f126 [.loc 0 0,.loc 1 off] [⟨81,.lst [L b l c,I a,I e1],3,true⟩,⟨e,.vals us,t,true⟩] E Q:=by
 refine sm_ (?_:off+1<=List.length us/\Q (SV.tup []) [⟨81,Row.lst [L b l c,I a,I e1],3,true⟩,⟨e,Row.vals (layV us off [Value.int IntKind.i64 (0:Int)]),t,true⟩] E)
 exact ⟨by omega,hQ _ _ _ (cloK_intro [some 0,some 1] h (wkH mr_))⟩
noncomputable def X4:Cx:={ P:=Try.prog,inl:=fun f=>List.contains [83] f,tab:=fun _ _ _ _=>False,isB:=fun _=>false,tabB:=fun _ _ _ _ _=>False,opt:={ unroll:=0,carry:=[] },muts:=(fun o=>match o with | .call _=>true|o=>mutsD o) }
theorem okX4:CxOK X4:=CxOK.four (fun _ _ _ _ h=>h.elim) (by kernel_rfl) (okInl (by kernel_rfl)) (fun _ _ _ _ _ h=>h.elim)
theorem n127 (hB:Bs E b l c zs) (hl:l<=100000) (ha:0<=a/\a<=l) (hm:1<=m/\m<=1000)
  (h:∀ (ys:List Int) (s':Int×Int) (n cap tot:Nat) (E':Mem),Mem.le E E'->Hyp (rtake zs (a,e1) m=(ys,s'))->0<=s'.1/\s'.1<=l->(n=m.toNat/\ys.length=n/\n<=cap/\∀ z∈ys,0<=z/\z<=255)->KK (.slc 1 0 n cap) [⟨81,.lst [L b l c,I s'.1,I s'.2],3,true⟩,⟨5,.vals (vB ys),tot,true⟩] E') (hQ:∀ s bx' E',cloK 1 KK s bx' E'->Q s bx' E'):
  EntB X4 6 Try.f127 [.loc 0 0,I m] [⟨81,.lst [L b l c,I a,I e1],3,true⟩] E Q:=by
 refine sm_ (?_:bif e1==(0:Int) then Sx.Alike al2 (bif bif true then decide (WI ((NI l)-a)<m) else false then req ((0:Int)<=m/\m<=m) (req (m*(1:Int)<=(140737488355328:Int)) (Q (SV.slc 1 0 (Int.toNat m) (Int.toNat m)) [⟨81,.lst [L b l c,I a,I 11],3,true⟩,⟨5,.vals (zerosV [U8 0] (Int.toNat m)),Int.toNat m*1,true⟩] E)) else bif e1 !=(0:Int) then req ((0:Int)<=m/\m<=m) (req (m*(1:Int)<=(140737488355328:Int)) (Q (SV.slc 1 0 (Int.toNat m) (Int.toNat m)) [⟨81,.lst [L b l c,I a,I e1],3,true⟩,⟨5,.vals (zerosV [U8 0] (Int.toNat m)),Int.toNat m*1,true⟩] E)) else req (l<=c) (req ((0:Int)<=WI (a+m)/\WI (a+m)<=(NI (toN none c))) (req ((0:Int)<=WI (WI (a+m)-m)/\WI (WI (a+m)-m)<=(NI (toN (some (WI (a+m))) l))) (∀ (base':Option Addr) (E':Mem),Mem.le E E'->(∀ (cs:List Value),E (VS b l c) cs->E' (VS base' (toN (some (WI (a+m))) l-toN (some (WI (WI (a+m)-m))) 0) (toN none c-toN (some (WI (WI (a+m)-m))) 0)) (List.take ((toN (some (WI (a+m))) l-toN (some (WI (WI (a+m)-m))) 0)*1) (List.drop (toN (some (WI (WI (a+m)-m))) 0*1) cs)))->Option.isNone base'=Option.isNone b->bif Option.isNone base' then Mem.le E' E'/\Q (L none 0 0) [⟨81,.lst [L b l c,I (WI (a+m)),I e1],3,true⟩] E' else ∃ (cs:List Value),(cs=[]\/E' (VS base' (toN (some (WI (a+m))) l-toN (some (WI (WI (a+m)-m))) 0) (toN none c-toN (some (WI (WI (a+m)-m))) 0)) cs)/\(toN (some (WI (a+m))) l-toN (some (WI (WI (a+m)-m))) 0)*1<=List.length cs/\(∀ (x:Value),List.Mem x cs->Value.oneCell' x=true)/\0<=0/\0<=0/\0<=0/\req ((0+(toN (some (WI (a+m))) l-toN (some (WI (WI (a+m)-m))) 0))*1<=140737488355328) (∀ (cap' tot':Nat),0+(toN (some (WI (a+m))) l-toN (some (WI (WI (a+m)-m))) 0)<=cap'->cap'*1<=tot'->Mem.le E' E'/\Q (SV.slc 2 0 (0+(toN (some (WI (a+m))) l-toN (some (WI (WI (a+m)-m))) 0)) cap') [⟨81,.lst [L b l c,I (WI (a+m)),I e1],3,true⟩,⟨5,.lst [],0,false⟩,⟨5,.vals ([]++List.take ((toN (some (WI (a+m))) l-toN (some (WI (WI (a+m)-m))) 0)*1) cs),tot',true⟩] E'))))) else Sx.Alike al2 (bif e1 !=(0:Int) then req ((0:Int)<=m/\m<=m) (req (m*(1:Int)<=(140737488355328:Int)) (Q (SV.slc 1 0 (Int.toNat m) (Int.toNat m)) [⟨81,.lst [L b l c,I a,I e1],3,true⟩,⟨5,.vals (zerosV [U8 0] (Int.toNat m)),Int.toNat m*1,true⟩] E)) else req (l<=c) (req ((0:Int)<=WI (a+m)/\WI (a+m)<=(NI (toN none c))) (req ((0:Int)<=WI (WI (a+m)-m)/\WI (WI (a+m)-m)<=(NI (toN (some (WI (a+m))) l))) (∀ (base':Option Addr) (E':Mem),Mem.le E E'->(∀ (cs:List Value),E (VS b l c) cs->E' (VS base' (toN (some (WI (a+m))) l-toN (some (WI (WI (a+m)-m))) 0) (toN none c-toN (some (WI (WI (a+m)-m))) 0)) (List.take ((toN (some (WI (a+m))) l-toN (some (WI (WI (a+m)-m))) 0)*1) (List.drop (toN (some (WI (WI (a+m)-m))) 0*1) cs)))->Option.isNone base'=Option.isNone b->bif Option.isNone base' then Mem.le E' E'/\Q (L none 0 0) [⟨81,.lst [L b l c,I (WI (a+m)),I e1],3,true⟩] E' else ∃ (cs:List Value),(cs=[]\/E' (VS base' (toN (some (WI (a+m))) l-toN (some (WI (WI (a+m)-m))) 0) (toN none c-toN (some (WI (WI (a+m)-m))) 0)) cs)/\(toN (some (WI (a+m))) l-toN (some (WI (WI (a+m)-m))) 0)*1<=List.length cs/\(∀ (x:Value),List.Mem x cs->Value.oneCell' x=true)/\0<=0/\0<=0/\0<=0/\req ((0+(toN (some (WI (a+m))) l-toN (some (WI (WI (a+m)-m))) 0))*1<=140737488355328) (∀ (cap' tot':Nat),0+(toN (some (WI (a+m))) l-toN (some (WI (WI (a+m)-m))) 0)<=cap'->cap'*1<=tot'->Mem.le E' E'/\Q (SV.slc 2 0 (0+(toN (some (WI (a+m))) l-toN (some (WI (WI (a+m)-m))) 0)) cap') [⟨81,.lst [L b l c,I (WI (a+m)),I e1],3,true⟩,⟨5,.lst [],0,false⟩,⟨5,.vals ([]++List.take ((toN (some (WI (a+m))) l-toN (some (WI (WI (a+m)-m))) 0)*1) cs),tot',true⟩] E'))))))
 delta WI NI U8 VS
 have hz:=hB.2.1
 have hc:=hB.2.2.1
 have z0:∀ n,zerosV [Value.int IntKind.u8 (0:Int)] n=vB (List.replicate n 0):=fun n=>by
  unfold zerosV
  induction n with
  | zero=>rfl
  | succ n ih=>rw [List.replicate_succ,List.flatten_cons,ih,List.replicate_succ];rfl
 have r0:∀ n:Nat,∀ z∈List.replicate n (0:Int),0<=z/\z<=255:=fun n z hz=>by have:=List.eq_of_mem_replicate hz;omega
 rw [z0,wrap_i64 (x:=(l:Int)-a) (by omega),wrap_i64 (x:=a+m) (by omega),wrap_i64 (x:=a+m-m) (by omega)]
 have bad:∀ s':Int×Int,rtake zs (a,e1) m=(List.replicate m.toNat 0,s')->s'.1=a->req (0<=m/\m<=m) (req (m*1<=140737488355328) (Q (.slc 1 0 m.toNat m.toNat) [⟨81,.lst [L b l c,I a,I s'.2],3,true⟩,⟨5,.vals (vB (List.replicate m.toNat 0)),m.toNat*1,true⟩] E)):=fun s' q q2=>by
  refine req_intro (by omega) (req_intro (by omega) ?_)
  have:=h _ s' m.toNat m.toNat (m.toNat*1) E mr_ q (by rw [q2];exact ha) ⟨rfl,by simp,Nat.le_refl _,r0 _⟩
  rw [q2] at this
  exact hQ _ _ _ (cloK_intro [some 0,some 1] this (wkH mr_))
 refine condC (fun g=>?_) (fun g=>?_)
 ·have g:e1=0:=by simpa using g
  subst g
  have tk:rtake zs (a,0) m=if zs.length-a<m then (List.replicate m.toNat 0,(a,11)) else ((zs.drop a.toNat).take m.toNat,(a+m,0)):=by
   unfold rtake;rw [if_neg (by simp)]
  refine alike (condC (fun g2=>?_) (fun g2=>condC (fun g3=>absurd g3 (by decide)) (fun _=>?_)))
  ·have g2:(l:Int)-a<m:=by simpa using g2
   exact bad (a,11) (by rw [tk,if_pos (by omega)]) rfl
  ·have g2:¬ (l:Int)-a<m:=by simpa using g2
   rw [if_neg (by omega)] at tk
   have t1:toN (some (a+m)) l=a.toNat+m.toNat:=by show (a+m).toNat=_;omega
   have t2:toN (some (a+m-m)) 0=a.toNat:=by show (a+m-m).toNat=_;rw [Int.add_sub_cancel]
   have t3:toN none c=c:=rfl
   rw [t1,t2,t3,show a.toNat+m.toNat-a.toNat=m.toNat by omega]
   refine req_intro hc (req_intro (by omega) (req_intro (by omega) fun b' E' hE hF hN=>?_))
   have B':Bs E' b' (a.toNat+m.toNat-a.toNat) (c-a.toNat) ((zs.drop a.toNat).take (a.toNat+m.toNat-a.toNat)):=Bs.sub' hB (by rw [show a.toNat+m.toNat-a.toNat=m.toNat by omega];exact hF) hN (by omega) (by omega)
   rw [show a.toNat+m.toNat-a.toNat=m.toNat by omega] at B'
   have bl:=B'.2.1
   obtain ⟨s1,s2,s3⟩:=B'.src
   refine condC (fun g4=>?_) (fun _=>⟨_,s1,s2,s3,Nat.le_refl _,Nat.le_refl _,Nat.le_refl _,req_intro (by omega) fun cap' tot' c1 c2=>?_⟩)
   ·have :(zs.drop a.toNat).take m.toNat=[]:=B'.2.2.2.2 (by simpa using g4)
    rw [this] at bl;simp at bl;omega
   ·refine ⟨mr_,?_⟩
    have:=h _ (a+m,0) (0+m.toNat) cap' tot' E' hE tk ⟨by show 0<=a+m;omega,by show a+m<=l;omega⟩ ⟨by omega,by omega,c1,B'.2.2.2.1⟩
    rw [List.nil_append,tkB (by omega)]
    exact hQ _ _ _ (cloK_intro [some 0,some 2] this (wkH mr_))
 ·have g:e1≠0:=by simpa using g
  exact alike (condC (fun _=>bad (a,e1) (by unfold rtake;rw [if_pos g]) rfl) (fun g2=>absurd g2 (by simpa using g)))
abbrev rBox (b:Option Addr) (l c:Nat) (s:Int×Int):Box:=⟨81,.lst [L b l c,I s.1,I s.2],3,true⟩
def rS (bx:List Box) (E:Mem) (x:SV) (k:Nat->Option Addr->Nat->Nat->Int×Int->List Int->Prop):Prop:=match x with
 | .loc r 0=>match bx[r]? with
  | some ⟨e8,.lst [.raw (.slice b l c),.raw (.int q a),.raw (.int q' e)],t,true⟩=>∃ zs,((e8=81/\t=3/\q= .i64/\q'= .i64)/\Bs E b l c zs/\l<=100000/\0<=a/\a<=l)/\k r b l c (a,e) zs
  | _=>False
 | _=>False
theorem rS_elim {x:SV} {k:Nat->Option Addr->Nat->Nat->Int×Int->List Int->Prop} (h:rS bx E x k):
  ∃ r b l c s zs,x= .loc r 0/\bx[r]? =some (rBox b l c s)/\Bs E b l c zs/\l<=100000/\(0<=s.1/\s.1<=l)/\k r b l c s zs:=by
 unfold rS at h
 split at h
 case h_2=>exact h.elim
 rename_i r
 split at h
 case h_2=>exact h.elim
 rename_i e8 b l c q a q' e t hr
 obtain ⟨zs,⟨⟨rfl,rfl,rfl,rfl⟩,h1,h2,h3,h4⟩,hk⟩:=h
 exact ⟨r,b,l,c,(a,e),zs,rfl,hr,h1,h2,⟨h3,h4⟩,hk⟩
def ptL (q:IntKind) (bx:List Box) (x:SV) (k:Nat->Int->(List Value->Box)->Prop):Prop:=match x with
 | .loc p off=>match bx[p]? with
  | some ⟨e,r,t,true⟩=>match r with
   | .lst cells=>match cells[off]? with
    | some (.raw (.int q' v))=>q'=q/\k p v (fun ws=>⟨e,.lst (lay cells off (ws.map .raw)),t,true⟩)
    | _=>False
   | .vals vs=>∃ v,vs[off]? =some (.int q v)/\k p v (fun ws=>⟨e,.vals (layV vs off ws),t,true⟩)
  | _=>False
 | _=>False
theorem ptL_elim {q:IntKind} (hq:q≠.u8) {x:SV} {k:Nat->Int->(List Value->Box)->Prop} (h:ptL q bx x k):
  ∃ p off e row t v,x= .loc p off/\PBx bx p off e row t (.int q v)/\k p v (fun ws=>⟨e,rowLay row off ws,t,true⟩):=by
 have nu:∀ v z,Value.int q v≠.int .u8 z:=fun v z e=>by cases e;exact hq rfl
 unfold ptL at h
 split at h
 case h_2=>exact h.elim
 rename_i p off
 split at h
 case h_2=>exact h.elim
 rename_i e r t hp
 split at h
 ·rename_i cells
  split at h
  case h_2=>exact h.elim
  rename_i q' v hc
  obtain ⟨rfl,hk⟩:=h
  exact ⟨p,off,e,_,t,v,rfl,⟨hp,hc,fun b e=>(by cases e),nu v⟩,hk⟩
 ·rename_i vs
  obtain ⟨v,hv,hk⟩:=h
  exact ⟨p,off,e,_,t,v,rfl,⟨hp,by simp [Row.cells,hv],fun b e=>(by cases e),nu v⟩,hk⟩
def ptS (bx:List Box) (x:SV) (k:Nat->(SV->Box)->Prop):Prop:=match x with
 | .loc p off=>match bx[p]? with
  | some ⟨e,.lst cells,t,true⟩=>match cells[off]? with
   | some (.raw (.slice b l c))=>k p (fun s=>⟨e,.lst (lay cells off [s]),t,true⟩)
   | _=>False
  | _=>False
 | _=>False
theorem ptS_elim {x:SV} {k:Nat->(SV->Box)->Prop} (h:ptS bx x k):
  ∃ p off e cells t b l c,x= .loc p off/\PBx bx p off e (.lst cells) t (.slice b l c)/\k p (fun s=>⟨e,.lst (lay cells off [s]),t,true⟩):=by
 unfold ptS at h
 split at h
 case h_2=>exact h.elim
 rename_i p off
 split at h
 case h_2=>exact h.elim
 rename_i e cells t hp
 split at h
 case h_2=>exact h.elim
 rename_i b l c hc
 exact ⟨p,off,e,cells,t,b,l,c,rfl,⟨hp,hc,fun b e=>(by cases e),fun z e=>(by cases e)⟩,h⟩
theorem rFrame {r:Nat} {e:TypeId} {v:Value} {K:KT} (hr0:bx[r]? =some (rBox b l c s0)) (H:PBx bx p off e row t v) (hne:r≠p) (hr:SV.valL rest=some restv)
  (h:∀ us:List Value,us[off]? =some v->CallSem Try.prog f (.loc 0 0::.loc 1 off::rest) [rBox b l c s0,⟨e,.vals us,t,true⟩] E (cloK 2 fun s bs E'=>s= .tup []/\
   ∃ (s':Int×Int) (ws:List Value),bs=[rBox b l c s',⟨e,.vals (layV us off ws),t,true⟩]/\K (.tup []) ((bx.set r (rBox b l c s')).set p ⟨e,rowLay row off ws,t,true⟩) E')):
  CallSem Try.prog f (.loc r 0::.loc p off::rest) bx E K:=by
 refine CallSem.handO (args':=.loc 0 0::.loc 1 off::rest) (σ:=[r,p]) (bxs:=[rBox b l c s0,deadB]) (k:=1) .vals (fun _=>rfl) H.hp rfl (by simp [hne]) rfl (fun i y hi hb=>?_) ?_ (fun us _ h2=>?_)
 ·match i,hb with
  | 0,hb=>
   simp only [List.getElem?_cons_zero,Option.some.injEq] at hb;subst hb
   exact ⟨rfl,r,rfl,by simpa [Box.ren,Row.ren,SV.renL,SV.ren,renF] using hr0⟩
  | 1,hb=>exact absurd rfl hi
  | j+2,hb=>simp at hb
 ·simp only [SV.renL,SV.ren,renF,List.getElem?_cons_zero,List.getElem?_cons_succ,renL_of_val _ _ _ hr]
 ·have hp:=(List.getElem?_eq_some_iff.1 H.hp).1
  refine CallSem.clo_mono (h us (h2 off v H.hv)) ?_
  rintro s bs E' ⟨rfl,s',ws,rfl,hK⟩
  refine ⟨.vals (layV us off ws),rowLay row off ws,⟨rfl,Cl.layV off ws⟩,?_⟩
  simp only [SV.ren,SV.renL,merge,setAll,List.take,List.drop,List.map,List.length_cons,List.length_nil,Box.ren,Row.ren,renF,List.getElem?_cons_zero,List.getElem?_cons_succ]
  rw [set_app_over (by simpa using hp),List.append_nil]
  exact hK
noncomputable def tab127:CallT:=fun f args bx E K=>match f with
 | 127=>d2 args fun x0 x1=>dI x1 fun m=>(1<=m/\m<=1000)/\rS bx E x0 fun r b l c s zs=>∀ (ys:List Int) (s':Int×Int) (b':Option Addr) (c':Nat) (E':Mem),Mem.le E E'->Hyp (rtake zs s m=(ys,s'))->0<=s'.1/\s'.1<=l->Bs E' b' m.toNat c' ys->K (L b' m.toNat c') (bx.set r (rBox b l c s')) E'
 | _=>False
theorem tab127_ok:∀ f args bx E K,tab127 f args bx E K->CallSem Try.prog f args bx E K:=by
 intro f args bx E K h
 unfold tab127 at h
 split at h
 case h_2=>exact h.elim
 obtain ⟨x0,x1,rfl,h1⟩:=d2_elim h
 obtain ⟨m,rfl,hm,h2⟩:=dI_elim h1
 obtain ⟨r,b,l,c,s,zs,rfl,hr,hB,hl,ha,hk⟩:=rS_elim h2
 refine CallSem.hand (σ:=[r]) (bxs:=[rBox b l c s]) ⟨by simp,rfl,fun i y hb=>?_⟩ (args':=[.loc 0 0,I m]) ?_ ?_
 ·match i,hb with
  | 0,hb=>
   simp only [List.getElem?_cons_zero,Option.some.injEq] at hb;subst hb
   exact ⟨rfl,r,rfl,by simpa [Box.ren,Row.ren,SV.renL,SV.ren,renF] using hr⟩
  | j+1,hb=>simp at hb
 ·simp only [SV.renL,SV.ren,renF,List.getElem?_cons_zero,List.getElem?_cons_succ]
 refine CallSem.pubB (CallSem.clo (bsm okX4 Try.func127 (n127 (KK:=pubB (cloK 1 fun s bs' E'=>K (s.ren [r] bx.length) (merge [r] bx bs') E')) hB hl ha hm ?_ (fun _ _ _ q=>q))))
 intro ys s' n cap tot E' hE hq hs ⟨hn,hy,hc,hb⟩
 refine same (q:=∀ (base:Option Addr) (E2:Mem),Mem.le E' E2->WinE E2 base (vB ys)->cloK 1 (fun s bs' E'=>K (s.ren [r] bx.length) (merge [r] bx bs') E') (.raw (slcAs base 0 n cap)) [rBox b l c s',⟨5,.vals (vB ys),tot,false⟩] E2) (by kernel_rfl) ?_
 intro base E2 h3 h4
 subst hn
 have:=hk ys s' (base.map fun x=>x.add 0) cap E2 (mt_ hE h3) hq hs (Bs.win h4 rfl hy hc hb)
 refine cloK_intro [some 0] (s':=L (base.map fun x=>x.add 0) m.toNat cap) (bx':=[rBox b l c s']) (E':=E2) ?_ (wkH mr_)
 simp only [SV.ren,SV.renL,merge,setAll,List.take,List.drop,List.map,List.length_cons,List.length_nil,Box.ren,Row.ren,renF,List.getElem?_cons_zero,List.getElem?_cons_succ,List.append_nil]
 exact this
noncomputable def X5:Cx:={ P:=Try.prog,inl:=fun f=>List.contains [] f,tab:=fun _ _ _ _=>False,isB:=fun f=>f==127,tabB:=tab127,opt:={ unroll:=0,carry:=[9] },muts:=(fun o=>match o with | .call _=>true|o=>mutsD o) }
theorem okX5:CxOK X5:=CxOK.four (fun _ _ _ _ h=>h.elim) (by kernel_rfl) (okInl (by kernel_rfl)) tab127_ok
def dstep (d x:Int):Int:=IntKind.wrap .u64 (((BitVec.ofInt (IntKind.bits .u64) (IntKind.wrap .u64 (d*2 ^ min (Int.toNat 8) (IntKind.bits .u64)))|||BitVec.ofInt (IntKind.bits .u64) (IntKind.wrap .u64 x)).toNat:Nat):Int)
def rdig (zs:List Int) (s:Int×Int) (d:Int):Int×(Int×Int):=match rtake zs s 8 with
 | (ys,s')=>(ys.foldl dstep d,s')
theorem layV_same (h:us[off]? =some x):layV us off [x]=us:=by
 obtain ⟨h1,h2⟩:=List.getElem?_eq_some_iff.1 h
 unfold layV
 rw [← h2,List.append_assoc,List.singleton_append]
 simp only [List.length_cons,List.length_nil]
 rw [List.getElem_cons_drop h1,List.take_append_drop]
theorem foldl_take {f:Int->Int->Int} {ys:List Int} (h:i<ys.length):(ys.take (i+1)).foldl f d=f ((ys.take i).foldl f d) (ys.getD i 0):=by
 rw [List.take_succ_eq_append_getElem h,List.foldl_append,List.getD_eq_getElem?_getD,List.getElem?_eq_getElem h];rfl
theorem n123 (hB:Bs E b l c zs) (hl:l<=100000) (ha:0<=s0.1/\s0.1<=l) (hm:1<=m/\m<=1000) (ho:off<us.length)
  (h:∀ (ys:List Int) (s':Int×Int) (b':Option Addr) (c':Nat) (E':Mem),Mem.le E E'->Hyp (rtake zs s0 m=(ys,s'))->0<=s'.1/\s'.1<=l->Bs E' b' m.toNat c' ys->KK (.tup []) [rBox b l c s',⟨e,.vals (layV us off [.slice b' m.toNat c']),t,true⟩] E') (hQ:∀ s bx' E',cloK 2 KK s bx' E'->Q s bx' E'):
  EntB X5 6 Try.f123 [.loc 0 0,.loc 1 off,I m] [rBox b l c s0,⟨e,.vals us,t,true⟩] E Q:=by
 refine sm_ (?_:((1:Int)<=m/\m<=(1000:Int))/\∃ (zs:List Int),((81=81/\3=3/\Sx.Alike al2 (IntKind.i64=IntKind.i64))/\Bs E b l c zs/\l<=100000/\0<=s0.fst/\s0.fst<=(↑l:Int))/\∀ (ys:List Int) (s':Int×Int) (b':Option Addr) (c':Nat) (E':Mem),Mem.le E E'->Hyp (rtake zs (s0.fst,s0.snd) m=(ys,s'))->0<=s'.fst/\s'.fst<=(↑l:Int)->Bs E' b' (Int.toNat m) c' ys->off+1<=List.length us/\Q (SV.tup []) [⟨81,Row.lst [L b l c,I s'.fst,I s'.snd],3,true⟩,⟨e,Row.vals (layV us off [Value.slice b' (Int.toNat m) c']),t,true⟩] E')
 exact ⟨hm,zs,⟨⟨rfl,rfl,alike rfl⟩,hB,hl,ha⟩,fun ys s' b' c' E' hE hq hs hb=>⟨by omega,hQ _ _ _ (cloK_intro [some 0,some 1] (h ys s' b' c' E' hE hq hs hb) (wkH mr_))⟩⟩
def sh124 (b:Option Addr) (l c:Nat) (s0:Int×Int) (us:List Value) (e t off:Nat) (b':Option Addr) (c' i:Nat) (E:Mem):St:=⟨[oc 0 0,oc 1 off,none,none,none,none,none,oL b' 8 c',oI 8,oI (i:Nat)]++List.replicate 13 none,[rBox b l c s0,⟨e,.vals us,t,true⟩],E⟩
theorem rn124 {b':Option Addr} {c':Nat} {ys:List Int} (hB:Bs E b' 8 c' ys) (hi:i<=8) (hv:us[off]? =some (.int .u64 ((ys.take i).foldl dstep d)))
  (h:KK (.tup []) [rBox b l c s0,⟨e,.vals (layV us off [.int .u64 (ys.foldl dstep d)]),t,true⟩] E) (hQ:∀ s bx' E',cloK 2 KK s bx' E'->Q s bx' E')
  (ih:i<8->Lp X5 6 Try.f124 [1,0] 2 Q (sh124 b l c s0 (layV us off [.int .u64 ((ys.take (i+1)).foldl dstep d)]) e t off b' c' (i+1) E)):
  Rnd X5 6 Try.f124 [1,0] 2 Q (sh124 b l c s0 us e t off b' c' i E):=by
 refine sm_ (?_:bif decide ((NI i)<8) then req (0<=(NI i)/\(NI i)<8) ((∃ (cs:List Value),E (VS b' 8 c') cs/\(cs=[]->False))/\∃ (n:Int),LoadE X5.P E 5 (VS b' 8 c') (Int.toNat (NI i)*1) (SV.raw (U8 n))/\∃ (n_1:Int),LoadV X5.P 32 us off (SV.raw (Value.int IntKind.u64 n_1))/\off+1<=List.length us/\Lp X5 6 Try.f124 [1,0] 2 Q { fr:=some (SV.loc 0 0)::oc 1 off::none::none::none::none::none::oL b' 8 c'::oI 8::oI (WI ((NI i)+1))::no8 (no4 (none::[])),bx:=[(⟨81,.lst [L b l c,I s0.fst,I s0.snd],3,true⟩:Box),⟨e,Row.vals (layV us off [Value.int IntKind.u64 (IntKind.wrap IntKind.u64 (NI (BitVec.toNat (BitVec.ofInt (IntKind.bits IntKind.u64) (IntKind.wrap IntKind.u64 (n_1*(2:Int) ^ min (Int.toNat 8) (IntKind.bits IntKind.u64)))|||BitVec.ofInt (IntKind.bits IntKind.u64) (IntKind.wrap IntKind.u64 n)))))]),t,true⟩],E:=E:St }) else Q (SV.tup []) [⟨81,.lst [L b l c,I s0.fst,I s0.snd],3,true⟩,⟨e,Row.vals us,t,true⟩] E)
 delta WI NI U8 VS no4 no8
 have hl:=hB.2.1
 have ho:off<us.length:=(List.getElem?_eq_some_iff.1 hv).1
 refine condC (fun g=>?_) (fun g=>?_)
 ·have g:i<8:=by simp at g;omega
  have w:IntKind.wrap .i64 ((i:Int)+1)=((i+1:Nat):Int):=by rw [wrap_i64 (by omega)];omega
  rw [w]
  refine req_intro (by omega) ⟨hB.ne g,ys.getD i 0,hB.load rfl g,_,loadV_cell rfl rfl hv,by omega,?_⟩
  have:=ih g
  rw [foldl_take (by omega)] at this
  exact Lp_re [some 0,some 1] this (wkH mr_)
 ·have g:i=8:=by simp at g;omega
  subst g
  rw [List.take_of_length_le (by omega)] at hv
  rw [layV_same hv] at h
  exact hQ _ _ _ (cloK_intro [some 0,some 1] h (wkH mr_))
theorem n124 (hB:Bs E b l c zs) (hl:l<=100000) (ha:0<=s0.1/\s0.1<=l) (hv:us[off]? =some (.int .u64 d))
  (h:∀ (v:Int) (s':Int×Int) (E':Mem),Mem.le E E'->Hyp (rdig zs s0 d=(v,s'))->0<=s'.1/\s'.1<=l->KK (.tup []) [rBox b l c s',⟨e,.vals (layV us off [.int .u64 v]),t,true⟩] E') (hQ:∀ s bx' E',cloK 2 KK s bx' E'->Q s bx' E'):
  EntB X5 6 Try.f124 [.loc 0 0,.loc 1 off] [rBox b l c s0,⟨e,.vals us,t,true⟩] E Q:=by
 refine sm_ (?_:((1:Int)<=(8:Int)/\(8:Int)<=(1000:Int))/\∃ (zs:List Int),((81=81/\3=3/\Sx.Alike al2 (IntKind.i64=IntKind.i64))/\Bs E b l c zs/\l<=100000/\0<=s0.fst/\s0.fst<=(NI l))/\∀ (ys:List Int) (s':Int×Int) (b':Option Addr) (c':Nat) (E':Mem),Mem.le E E'->Hyp (rtake zs (s0.fst,s0.snd) (8:Int)=(ys,s'))->0<=s'.fst/\s'.fst<=(NI l)->Bs E' b' 8 c' ys->Lp X5 6 Try.f124 [1,0] 2 Q { fr:=some (SV.loc 0 0)::oc 1 off::none::none::none::none::oc 0 0::oL b' 8 c'::oI 8::oI 0::no8 (no4 (none::[])),bx:=[(⟨81,.lst [L b l c,I s'.fst,I s'.snd],3,true⟩:Box),⟨e,Row.vals us,t,true⟩],E:=E':St })
 delta NI no4 no8
 have ho:off<us.length:=(List.getElem?_eq_some_iff.1 hv).1
 refine ⟨by decide,zs,⟨⟨rfl,rfl,alike rfl⟩,hB,hl,ha⟩,fun ys s' b' c' E' hE hq hs hb=>?_⟩
 have hq:rtake zs s0 8=(ys,s'):=hq
 have hk:=h (ys.foldl dstep d) s' E' hE (by show rdig zs s0 d=_;unfold rdig;rw [hq]) hs
 have key:=Lp_ind okX5 (n:=6) (fn:=Try.f124) (p:=[1,0]) (n0:=2) (K:=Q) (fun q:{i:Nat//i<=8}=>sh124 b l c s' (layV us off [.int .u64 ((ys.take q.1).foldl dstep d)]) e t off b' c' q.1 E') (fun q=>8-q.1)
  (fun q ih=>rn124 hb q.2 (layV_get ho) (by rw [layV_layV ho];exact hk) hQ fun g=>by
   rw [layV_layV ho]
   exact ih ⟨q.1+1,g⟩ (by show 8-(_+1)<8-_;omega)) ⟨0,by decide⟩
 have e0:layV us off [.int .u64 ((ys.take 0).foldl dstep d)]=us:=layV_same hv
 rw [e0] at key
 exact Lp_re [some 0,some 1] key (wkH mr_)
theorem rdig_elim {s s':Int×Int} (h:rdig zs s d=(v,s')):∃ ys,rtake zs s 8=(ys,s')/\v=ys.foldl dstep d:=by
 unfold rdig at h
 split at h
 rename_i ys s2 h2
 simp only [Prod.mk.injEq] at h
 obtain ⟨rfl,rfl⟩:=h
 exact ⟨ys,h2,rfl⟩
noncomputable def tabBR:CallT:=fun f args bx E K=>match f with
 | 125=>d4 args fun x0 x1 x2 x3=>dI x2 fun lo=>dI x3 fun hi=>rS bx E x0 fun r b l c s zs=>ptL .i64 bx x1 fun p v0 put=>r≠p/\∀ (v:Int) (s':Int×Int) (E':Mem),Mem.le E E'->Hyp (rnum zs s lo hi=(v,s'))->0<=s'.1/\s'.1<=l->K (.tup []) ((bx.set r (rBox b l c s')).set p (put [.int .i64 v])) E'
 | 126=>d2 args fun x0 x1=>rS bx E x0 fun r b l c s zs=>ptL .i64 bx x1 fun p v0 put=>r≠p/\K (.tup []) (bx.set p (put [.int .i64 0])) E
 | 124=>d2 args fun x0 x1=>rS bx E x0 fun r b l c s zs=>ptL .u64 bx x1 fun p d put=>r≠p/\∀ (ys:List Int) (s':Int×Int) (E':Mem),Mem.le E E'->Hyp (rtake zs s 8=(ys,s'))->0<=s'.1/\s'.1<=l->K (.tup []) ((bx.set r (rBox b l c s')).set p (put [.int .u64 (ys.foldl dstep d)])) E'
 | 123=>d3 args fun x0 x1 x2=>dI x2 fun m=>(1<=m/\m<=1000)/\rS bx E x0 fun r b l c s zs=>ptS bx x1 fun p put=>r≠p/\∀ (ys:List Int) (s':Int×Int) (b':Option Addr) (c':Nat) (E':Mem),Mem.le E E'->Hyp (rtake zs s m=(ys,s'))->0<=s'.1/\s'.1<=l->Bs E' b' m.toNat c' ys->K (.tup []) ((bx.set r (rBox b l c s')).set p (put (L b' m.toNat c'))) E'
 | _=>False
theorem tabBR_ok:∀ f args bx E K,tabBR f args bx E K->CallSem Try.prog f args bx E K:=by
 intro f args bx E K h
 unfold tabBR at h
 split at h
 ·obtain ⟨x0,x1,x2,x3,rfl,h1⟩:=d4_elim h
  obtain ⟨lo,rfl,h2⟩:=dI_elim h1
  obtain ⟨hi,rfl,h3⟩:=dI_elim h2
  obtain ⟨r,b,l,c,s,zs,rfl,hr,hB,hl,ha,h4⟩:=rS_elim h3
  obtain ⟨p,off,e,row,t,v,rfl,H,hne,hk⟩:=ptL_elim (by decide) h4
  refine rFrame (rest:=[I lo,I hi]) (restv:=[.int .i64 lo,.int .i64 hi]) hr H hne rfl fun us hus=>?_
  exact bsm okX3 Try.func125 (n125 hB hl ha (List.getElem?_eq_some_iff.1 hus).1 (fun v' s' E' hE hq hs=>⟨rfl,s',[.int .i64 v'],rfl,hk v' s' E' hE hq hs⟩) (fun _ _ _ q=>q))
 ·obtain ⟨x0,x1,rfl,h1⟩:=d2_elim h
  obtain ⟨r,b,l,c,s,zs,rfl,hr,hB,hl,ha,h4⟩:=rS_elim h1
  obtain ⟨p,off,e,row,t,v,rfl,H,hne,hk⟩:=ptL_elim (by decide) h4
  refine rFrame (rest:=[]) (restv:=[]) hr H hne rfl fun us hus=>?_
  exact bsm okX3 Try.func126 (n126 (List.getElem?_eq_some_iff.1 hus).1 ⟨rfl,s,[.int .i64 0],rfl,by rw [set_same (p:=r) hr];exact hk⟩ (fun _ _ _ q=>q))
 ·obtain ⟨x0,x1,rfl,h1⟩:=d2_elim h
  obtain ⟨r,b,l,c,s,zs,rfl,hr,hB,hl,ha,h4⟩:=rS_elim h1
  obtain ⟨p,off,e,row,t,v,rfl,H,hne,hk⟩:=ptL_elim (by decide) h4
  refine rFrame (rest:=[]) (restv:=[]) hr H hne rfl fun us hus=>?_
  exact bsm okX5 Try.func124 (n124 hB hl ha hus (fun v' s' E' hE hq hs=>⟨rfl,s',[.int .u64 v'],rfl,by obtain ⟨ys,h1,h2⟩:=rdig_elim hq;rw [h2];exact hk ys s' E' hE h1 hs⟩) (fun _ _ _ q=>q))
 ·obtain ⟨x0,x1,x2,rfl,h1⟩:=d3_elim h
  obtain ⟨m,rfl,hm,h2⟩:=dI_elim h1
  obtain ⟨r,b,l,c,s,zs,rfl,hr,hB,hl,ha,h4⟩:=rS_elim h2
  obtain ⟨p,off,e,cells,t,b0,l0,c0,rfl,H,hne,hk⟩:=ptS_elim h4
  refine rFrame (rest:=[I m]) (restv:=[.int .i64 m]) hr H hne rfl fun us hus=>?_
  exact bsm okX5 Try.func123 (n123 hB hl ha hm (List.getElem?_eq_some_iff.1 hus).1 (fun ys s' b' c' E' hE hq hs hb=>⟨rfl,s',[.slice b' m.toNat c'],rfl,hk ys s' b' c' E' hE hq hs hb⟩) (fun _ _ _ q=>q))
 ·exact h.elim
noncomputable def Y1:Cx:={ P:=Try.prog,inl:=fun f=>List.contains [86,63] f,tab:=fun _ _ _ _=>False,isB:=fun f=>f==118||f==119||f==120||f==121,tabB:=tabBW,opt:={ unroll:=3,carry:=[] },muts:=(fun o=>match o with | .call _=>true|o=>mutsD o) }
theorem okY1:CxOK Y1:=CxOK.four (fun _ _ _ _ h=>h.elim) (by kernel_rfl) (okInl (by kernel_rfl)) tabBW_ok
abbrev Item:=Nat×Option (Int×Int)
def wItem (x:List Int) (o:List Int×Bool) (it:Item):List Int×Bool:=match it.2 with
 | some r=>wnum o (x.getD it.1 0) r.1 r.2
 | none=>wuns o (x.getD it.1 0)
def weI (its:List Item) (o:List Int×Bool) (x:List Int):List Int×Bool:=its.foldl (wItem x) o
theorem wItem_len (x:List Int) (o:List Int×Bool) (it:Item):(wItem x o it).1.length<=o.1.length+10:=by
 unfold wItem
 split
 ·exact wnum_len _ _ _ _
 ·show o.1.length<=_;omega
theorem weI_len:∀ (its:List Item) (o:List Int×Bool) (x:List Int),(weI its o x).1.length<=o.1.length+10*its.length
 | [],o,x=>by simp [weI]
 | it::its,o,x=>by
  have h1:=wItem_len x o it
  have h2:=weI_len its (wItem x o it) x
  show (weI its (wItem x o it) x).1.length<=_
  simp only [List.length_cons];omega
theorem len10 {o o':List Int×Bool} {n' cap' tot':Nat} (h:wnum o v lo hi=o') (W:WOK o.1 n cap tot) (W':WOK o'.1 n' cap' tot'):n'<=n+10:=by
 have:=wnum_len o v lo hi
 rw [h,W'.len,W.len] at this;exact this
def weD (o:List Int×Bool) (x:List Int):List Int×Bool:=wdig o (x.getD 0 0)
def its85:List Item:=[(0,some (0,59)),(1,some (0,15)),(2,some (0,59)),(3,some (0,1000000000))]
theorem e85 {bad:Bool} {x:List Int} (W:WOK out n cap tot) (hs:n<=900000) (hx:∀ j,j<4->LoadE Try.prog E 3 y (off+j) (.raw (.int .i64 (x.getD j 0))))
  (h:∀ (o':List Int×Bool) (n' cap' tot':Nat),Hyp (weI its85 (out,bad) x=o')->WOK o'.1 n' cap' tot'->KK (.tup []) [⟨76,.lst [.slc 3 0 n' cap',B o'.2],2,true⟩,deadB,⟨129,.lst [.ifc 74 (.loc 0 0)],1,true⟩,⟨5,.vals (vB o'.1),tot',true⟩] E) (hQ:∀ s bx',cloK 3 KK s bx' E->Q s bx' E):
  EntB Y1 6 Try.f85 [.rp y off,.loc 2 0] [⟨76,.lst [.slc 1 0 n cap,B bad],2,true⟩,⟨5,.vals (vB out),tot,true⟩,⟨129,.lst [.ifc 74 (.loc 0 0)],1,true⟩] E Q:=by
 refine sm_ (?_:((-10000000000000:Int)<=(0:Int)/\(59:Int)<=(10000000000000:Int))/\∃ (out_1:List Int),((76=76/\2=2/\5=5/\vB out=vB out_1)/\WOK out_1 n cap tot/\n<=1000000)/\∃ (v:Int),LoadE Try.prog E 3 y (off+0+0) (I v)/\∀ (o':List Int×Bool) (n' cap' tot':Nat),Hyp (wnum (out_1,bad) v (0:Int) (59:Int)=o')->WOK o'.fst n' cap' tot'->((-10000000000000:Int)<=(0:Int)/\(15:Int)<=(10000000000000:Int))/\∃ (out:List Int),((76=76/\2=2/\5=5/\vB o'.fst=vB out)/\WOK out n' cap' tot'/\n'<=1000000)/\∃ (v:Int),LoadE Try.prog E 3 y (off+0+1) (I v)/\∀ (o'_1:List Int×Bool) (n' cap' tot':Nat),Hyp (wnum (out,o'.snd) v (0:Int) (15:Int)=o'_1)->WOK o'_1.fst n' cap' tot'->((-10000000000000:Int)<=(0:Int)/\(59:Int)<=(10000000000000:Int))/\∃ (out:List Int),((76=76/\2=2/\5=5/\vB o'_1.fst=vB out)/\WOK out n' cap' tot'/\n'<=1000000)/\∃ (v:Int),LoadE Try.prog E 3 y (off+2) (I v)/\∀ (o':List Int×Bool) (n' cap' tot':Nat),Hyp (wnum (out,o'_1.snd) v (0:Int) (59:Int)=o')->WOK o'.fst n' cap' tot'->((-10000000000000:Int)<=(0:Int)/\(1000000000:Int)<=(10000000000000:Int))/\∃ (out:List Int),((76=76/\2=2/\5=5/\vB o'.fst=vB out)/\WOK out n' cap' tot'/\n'<=1000000)/\∃ (v:Int),LoadE Try.prog E 3 y (off+3) (I v)/\∀ (o'_2:List Int×Bool) (n' cap' tot':Nat),Hyp (wnum (out,o'.snd) v (0:Int) (1000000000:Int)=o'_2)->WOK o'_2.fst n' cap' tot'->Q (SV.tup []) [⟨76,Row.lst [SV.slc 6 0 n' cap',B o'_2.snd],2,true⟩,⟨5,Row.lst [],0,false⟩,⟨129,Row.lst [SV.ifc 74 (SV.loc 0 0)],1,true⟩,⟨5,Row.lst [],0,false⟩,⟨5,Row.lst [],0,false⟩,⟨5,Row.lst [],0,false⟩,⟨5,Row.vals (vB o'_2.fst),tot',true⟩] E)
 refine ⟨by decide,_,⟨⟨rfl,rfl,rfl,rfl⟩,W,by omega⟩,_,hx 0 (by decide),fun o1 n1 c1 t1 q1 W1=>?_⟩
 have q1:wnum (out,bad) (x.getD 0 0) (0) 59=o1:=q1
 have l1:=len10 q1 W W1
 refine ⟨by decide,_,⟨⟨rfl,rfl,rfl,rfl⟩,W1,by omega⟩,_,hx 1 (by decide),fun o2 n2 c2 t2 q2 W2=>?_⟩
 have q2:wnum o1 (x.getD 1 0) (0) 15=o2:=q2
 have l2:=len10 q2 W1 W2
 refine ⟨by decide,_,⟨⟨rfl,rfl,rfl,rfl⟩,W2,by omega⟩,_,hx 2 (by decide),fun o3 n3 c3 t3 q3 W3=>?_⟩
 have q3:wnum o2 (x.getD 2 0) (0) 59=o3:=q3
 have l3:=len10 q3 W2 W3
 refine ⟨by decide,_,⟨⟨rfl,rfl,rfl,rfl⟩,W3,by omega⟩,_,hx 3 (by decide),fun o4 n4 c4 t4 q4 W4=>?_⟩
 have q4:wnum o3 (x.getD 3 0) (0) 1000000000=o4:=q4
 have l4:=len10 q4 W3 W4
 exact hQ _ _ (cloK_intro [some 0,some 1,some 2,some 6] (h o4 n4 c4 t4 (by show weI its85 (out,bad) x=_;simp only [weI,its85,List.foldl,wItem];rw [q1,q2,q3,q4]) W4) (wkH mr_))
def its88:List Item:=[(0,some (0,59)),(1,some (0,15)),(2,some (0,59)),(3,some (0,1000000000)),(4,some (0,1000000000))]
theorem e88 {bad:Bool} {x:List Int} (W:WOK out n cap tot) (hs:n<=900000) (hx:∀ j,j<5->LoadE Try.prog E 3 y (off+j) (.raw (.int .i64 (x.getD j 0))))
  (h:∀ (o':List Int×Bool) (n' cap' tot':Nat),Hyp (weI its88 (out,bad) x=o')->WOK o'.1 n' cap' tot'->KK (.tup []) [⟨76,.lst [.slc 3 0 n' cap',B o'.2],2,true⟩,deadB,⟨129,.lst [.ifc 74 (.loc 0 0)],1,true⟩,⟨5,.vals (vB o'.1),tot',true⟩] E) (hQ:∀ s bx',cloK 3 KK s bx' E->Q s bx' E):
  EntB Y1 6 Try.f88 [.rp y off,.loc 2 0] [⟨76,.lst [.slc 1 0 n cap,B bad],2,true⟩,⟨5,.vals (vB out),tot,true⟩,⟨129,.lst [.ifc 74 (.loc 0 0)],1,true⟩] E Q:=by
 refine sm_ (?_:((-10000000000000:Int)<=(0:Int)/\(59:Int)<=(10000000000000:Int))/\∃ (out_1:List Int),((76=76/\2=2/\5=5/\vB out=vB out_1)/\WOK out_1 n cap tot/\n<=1000000)/\∃ (v:Int),LoadE Try.prog E 3 y (off+0+0) (I v)/\∀ (o':List Int×Bool) (n' cap' tot':Nat),Hyp (wnum (out_1,bad) v (0:Int) (59:Int)=o')->WOK o'.fst n' cap' tot'->((-10000000000000:Int)<=(0:Int)/\(15:Int)<=(10000000000000:Int))/\∃ (out:List Int),((76=76/\2=2/\5=5/\vB o'.fst=vB out)/\WOK out n' cap' tot'/\n'<=1000000)/\∃ (v:Int),LoadE Try.prog E 3 y (off+0+1) (I v)/\∀ (o'_1:List Int×Bool) (n' cap' tot':Nat),Hyp (wnum (out,o'.snd) v (0:Int) (15:Int)=o'_1)->WOK o'_1.fst n' cap' tot'->((-10000000000000:Int)<=(0:Int)/\(59:Int)<=(10000000000000:Int))/\∃ (out:List Int),((76=76/\2=2/\5=5/\vB o'_1.fst=vB out)/\WOK out n' cap' tot'/\n'<=1000000)/\∃ (v:Int),LoadE Try.prog E 3 y (off+2) (I v)/\∀ (o':List Int×Bool) (n' cap' tot':Nat),Hyp (wnum (out,o'_1.snd) v (0:Int) (59:Int)=o')->WOK o'.fst n' cap' tot'->((-10000000000000:Int)<=(0:Int)/\(1000000000:Int)<=(10000000000000:Int))/\∃ (out:List Int),((76=76/\2=2/\5=5/\vB o'.fst=vB out)/\WOK out n' cap' tot'/\n'<=1000000)/\∃ (v:Int),LoadE Try.prog E 3 y (off+3) (I v)/\∀ (o'_2:List Int×Bool) (n' cap' tot':Nat),Hyp (wnum (out,o'.snd) v (0:Int) (1000000000:Int)=o'_2)->WOK o'_2.fst n' cap' tot'->((-10000000000000:Int)<=(0:Int)/\(1000000000:Int)<=(10000000000000:Int))/\∃ (out:List Int),((76=76/\2=2/\5=5/\vB o'_2.fst=vB out)/\WOK out n' cap' tot'/\n'<=1000000)/\∃ (v:Int),LoadE Try.prog E 3 y (off+4) (I v)/\∀ (o':List Int×Bool) (n' cap' tot':Nat),Hyp (wnum (out,o'_2.snd) v (0:Int) (1000000000:Int)=o')->WOK o'.fst n' cap' tot'->Q (SV.tup []) [⟨76,Row.lst [SV.slc 8 0 n' cap',B o'.snd],2,true⟩,⟨5,Row.lst [],0,false⟩,⟨129,Row.lst [SV.ifc 74 (SV.loc 0 0)],1,true⟩,⟨5,Row.lst [],0,false⟩,⟨5,Row.lst [],0,false⟩,⟨5,Row.lst [],0,false⟩,⟨131,Row.lst [SV.rp y (off+3),SV.rp y (off+4)],2,true⟩,⟨5,Row.lst [],0,false⟩,⟨5,Row.vals (vB o'.fst),tot',true⟩] E)
 refine ⟨by decide,_,⟨⟨rfl,rfl,rfl,rfl⟩,W,by omega⟩,_,hx 0 (by decide),fun o1 n1 c1 t1 q1 W1=>?_⟩
 have q1:wnum (out,bad) (x.getD 0 0) (0) 59=o1:=q1
 have l1:=len10 q1 W W1
 refine ⟨by decide,_,⟨⟨rfl,rfl,rfl,rfl⟩,W1,by omega⟩,_,hx 1 (by decide),fun o2 n2 c2 t2 q2 W2=>?_⟩
 have q2:wnum o1 (x.getD 1 0) (0) 15=o2:=q2
 have l2:=len10 q2 W1 W2
 refine ⟨by decide,_,⟨⟨rfl,rfl,rfl,rfl⟩,W2,by omega⟩,_,hx 2 (by decide),fun o3 n3 c3 t3 q3 W3=>?_⟩
 have q3:wnum o2 (x.getD 2 0) (0) 59=o3:=q3
 have l3:=len10 q3 W2 W3
 refine ⟨by decide,_,⟨⟨rfl,rfl,rfl,rfl⟩,W3,by omega⟩,_,hx 3 (by decide),fun o4 n4 c4 t4 q4 W4=>?_⟩
 have q4:wnum o3 (x.getD 3 0) (0) 1000000000=o4:=q4
 have l4:=len10 q4 W3 W4
 refine ⟨by decide,_,⟨⟨rfl,rfl,rfl,rfl⟩,W4,by omega⟩,_,hx 4 (by decide),fun o5 n5 c5 t5 q5 W5=>?_⟩
 have q5:wnum o4 (x.getD 4 0) (0) 1000000000=o5:=q5
 have l5:=len10 q5 W4 W5
 exact hQ _ _ (cloK_intro [some 0,some 1,some 2,some 8] (h o5 n5 c5 t5 (by show weI its88 (out,bad) x=_;simp only [weI,its88,List.foldl,wItem];rw [q1,q2,q3,q4,q5]) W5) (wkH mr_))
def its90:List Item:=[(0,some (0,59)),(1,some (0,15)),(2,some (0,59))]
theorem e90 {bad:Bool} {x:List Int} (W:WOK out n cap tot) (hs:n<=900000) (hx:∀ j,j<3->LoadE Try.prog E 3 y (off+j) (.raw (.int .i64 (x.getD j 0))))
  (h:∀ (o':List Int×Bool) (n' cap' tot':Nat),Hyp (weI its90 (out,bad) x=o')->WOK o'.1 n' cap' tot'->KK (.tup []) [⟨76,.lst [.slc 3 0 n' cap',B o'.2],2,true⟩,deadB,⟨129,.lst [.ifc 74 (.loc 0 0)],1,true⟩,⟨5,.vals (vB o'.1),tot',true⟩] E) (hQ:∀ s bx',cloK 3 KK s bx' E->Q s bx' E):
  EntB Y1 6 Try.f90 [.rp y off,.loc 2 0] [⟨76,.lst [.slc 1 0 n cap,B bad],2,true⟩,⟨5,.vals (vB out),tot,true⟩,⟨129,.lst [.ifc 74 (.loc 0 0)],1,true⟩] E Q:=by
 refine sm_ (?_:((-10000000000000:Int)<=(0:Int)/\(59:Int)<=(10000000000000:Int))/\∃ (out_1:List Int),((76=76/\2=2/\5=5/\vB out=vB out_1)/\WOK out_1 n cap tot/\n<=1000000)/\∃ (v:Int),LoadE Try.prog E 3 y (off+0+0) (I v)/\∀ (o':List Int×Bool) (n' cap' tot':Nat),Hyp (wnum (out_1,bad) v (0:Int) (59:Int)=o')->WOK o'.fst n' cap' tot'->((-10000000000000:Int)<=(0:Int)/\(15:Int)<=(10000000000000:Int))/\∃ (out:List Int),((76=76/\2=2/\5=5/\vB o'.fst=vB out)/\WOK out n' cap' tot'/\n'<=1000000)/\∃ (v:Int),LoadE Try.prog E 3 y (off+0+1) (I v)/\∀ (o'_1:List Int×Bool) (n' cap' tot':Nat),Hyp (wnum (out,o'.snd) v (0:Int) (15:Int)=o'_1)->WOK o'_1.fst n' cap' tot'->((-10000000000000:Int)<=(0:Int)/\(59:Int)<=(10000000000000:Int))/\∃ (out:List Int),((76=76/\2=2/\5=5/\vB o'_1.fst=vB out)/\WOK out n' cap' tot'/\n'<=1000000)/\∃ (v:Int),LoadE Try.prog E 3 y (off+2) (I v)/\∀ (o':List Int×Bool) (n' cap' tot':Nat),Hyp (wnum (out,o'_1.snd) v (0:Int) (59:Int)=o')->WOK o'.fst n' cap' tot'->Q (SV.tup []) [⟨76,Row.lst [SV.slc 5 0 n' cap',B o'.snd],2,true⟩,⟨5,Row.lst [],0,false⟩,⟨129,Row.lst [SV.ifc 74 (SV.loc 0 0)],1,true⟩,⟨5,Row.lst [],0,false⟩,⟨5,Row.lst [],0,false⟩,⟨5,Row.vals (vB o'.fst),tot',true⟩] E)
 refine ⟨by decide,_,⟨⟨rfl,rfl,rfl,rfl⟩,W,by omega⟩,_,hx 0 (by decide),fun o1 n1 c1 t1 q1 W1=>?_⟩
 have q1:wnum (out,bad) (x.getD 0 0) (0) 59=o1:=q1
 have l1:=len10 q1 W W1
 refine ⟨by decide,_,⟨⟨rfl,rfl,rfl,rfl⟩,W1,by omega⟩,_,hx 1 (by decide),fun o2 n2 c2 t2 q2 W2=>?_⟩
 have q2:wnum o1 (x.getD 1 0) (0) 15=o2:=q2
 have l2:=len10 q2 W1 W2
 refine ⟨by decide,_,⟨⟨rfl,rfl,rfl,rfl⟩,W2,by omega⟩,_,hx 2 (by decide),fun o3 n3 c3 t3 q3 W3=>?_⟩
 have q3:wnum o2 (x.getD 2 0) (0) 59=o3:=q3
 have l3:=len10 q3 W2 W3
 exact hQ _ _ (cloK_intro [some 0,some 1,some 2,some 5] (h o3 n3 c3 t3 (by show weI its90 (out,bad) x=_;simp only [weI,its90,List.foldl,wItem];rw [q1,q2,q3]) W3) (wkH mr_))
def its92:List Item:=[(0,some (0,59)),(2,some (0,1000000000)),(1,none),(3,none)]
theorem e92 {bad:Bool} {x:List Int} (W:WOK out n cap tot) (hs:n<=900000) (hx:∀ j,j<4->LoadE Try.prog E 3 y (off+j) (.raw (.int .i64 (x.getD j 0))))
  (h:∀ (o':List Int×Bool) (n' cap' tot':Nat),Hyp (weI its92 (out,bad) x=o')->WOK o'.1 n' cap' tot'->KK (.tup []) [⟨76,.lst [.slc 3 0 n' cap',B o'.2],2,true⟩,deadB,⟨129,.lst [.ifc 74 (.loc 0 0)],1,true⟩,⟨5,.vals (vB o'.1),tot',true⟩] E) (hQ:∀ s bx',cloK 3 KK s bx' E->Q s bx' E):
  EntB Y1 6 Try.f92 [.rp y off,.loc 2 0] [⟨76,.lst [.slc 1 0 n cap,B bad],2,true⟩,⟨5,.vals (vB out),tot,true⟩,⟨129,.lst [.ifc 74 (.loc 0 0)],1,true⟩] E Q:=by
 refine sm_ (?_:((-10000000000000:Int)<=(0:Int)/\(59:Int)<=(10000000000000:Int))/\∃ (out_1:List Int),((76=76/\2=2/\5=5/\vB out=vB out_1)/\WOK out_1 n cap tot/\n<=1000000)/\∃ (v:Int),LoadE Try.prog E 3 y (off+0) (I v)/\∀ (o':List Int×Bool) (n' cap' tot':Nat),Hyp (wnum (out_1,bad) v (0:Int) (59:Int)=o')->WOK o'.fst n' cap' tot'->((-10000000000000:Int)<=(0:Int)/\(1000000000:Int)<=(10000000000000:Int))/\∃ (out:List Int),((76=76/\2=2/\5=5/\vB o'.fst=vB out)/\WOK out n' cap' tot'/\n'<=1000000)/\∃ (v:Int),LoadE Try.prog E 3 y (off+2) (I v)/\∀ (o'_1:List Int×Bool) (n' cap' tot':Nat),Hyp (wnum (out,o'.snd) v (0:Int) (1000000000:Int)=o'_1)->WOK o'_1.fst n' cap' tot'->∃ (out:List Int),((76=76/\2=2/\5=5/\vB o'_1.fst=vB out)/\WOK out n' cap' tot'/\n'<=1000000)/\∃ (v:Int),LoadE Try.prog E 3 y (off+1) (I v)/\∃ (out:List Int),((76=76/\2=2/\5=5/\vB o'_1.fst=vB out)/\WOK out n' cap' tot'/\n'<=1000000)/\∃ (v_1:Int),LoadE Try.prog E 3 y (off+3) (I v_1)/\Q (SV.tup []) [⟨76,Row.lst [SV.slc 4 0 n' cap',B (o'_1.snd||v !=(0:Int)||v_1 !=(0:Int))],2,true⟩,⟨5,Row.lst [],0,false⟩,⟨129,Row.lst [SV.ifc 74 (SV.loc 0 0)],1,true⟩,⟨5,Row.lst [],0,false⟩,⟨5,Row.vals (vB o'_1.fst),tot',true⟩] E)
 refine ⟨by decide,_,⟨⟨rfl,rfl,rfl,rfl⟩,W,by omega⟩,_,hx 0 (by decide),fun o1 n1 c1 t1 q1 W1=>?_⟩
 have q1:wnum (out,bad) (x.getD 0 0) (0) 59=o1:=q1
 have l1:=len10 q1 W W1
 refine ⟨by decide,_,⟨⟨rfl,rfl,rfl,rfl⟩,W1,by omega⟩,_,hx 2 (by decide),fun o2 n2 c2 t2 q2 W2=>?_⟩
 have q2:wnum o1 (x.getD 2 0) (0) 1000000000=o2:=q2
 have l2:=len10 q2 W1 W2
 refine ⟨_,⟨⟨rfl,rfl,rfl,rfl⟩,W2,by omega⟩,_,hx 1 (by decide),?_⟩
 refine ⟨_,⟨⟨rfl,rfl,rfl,rfl⟩,W2,by omega⟩,_,hx 3 (by decide),?_⟩
 exact hQ _ _ (cloK_intro [some 0,some 1,some 2,some 4] (h (o2.1,o2.2||x.getD 1 0 !=0||x.getD 3 0 !=0) n2 c2 t2 (by show weI its92 (out,bad) x=_;simp only [weI,its92,List.foldl,wItem,wuns];rw [q1,q2]) W2) (wkH mr_))
def its94:List Item:=[(0,some (1,4)),(1,some (0,59)),(2,some (-1,59)),(3,some (0,10000000000000)),(4,some (0,10000000000000)),(5,some (0,2000000)),(6,some (0,500002)),(7,some (0,500002))]
theorem e94 {bad:Bool} {x:List Int} (W:WOK out n cap tot) (hs:n<=900000) (hx:∀ j,j<8->LoadE Try.prog E 3 y (off+j) (.raw (.int .i64 (x.getD j 0))))
  (h:∀ (o':List Int×Bool) (n' cap' tot':Nat),Hyp (weI its94 (out,bad) x=o')->WOK o'.1 n' cap' tot'->KK (.tup []) [⟨76,.lst [.slc 3 0 n' cap',B o'.2],2,true⟩,deadB,⟨129,.lst [.ifc 74 (.loc 0 0)],1,true⟩,⟨5,.vals (vB o'.1),tot',true⟩] E) (hQ:∀ s bx',cloK 3 KK s bx' E->Q s bx' E):
  EntB Y1 6 Try.f94 [.rp y off,.loc 2 0] [⟨76,.lst [.slc 1 0 n cap,B bad],2,true⟩,⟨5,.vals (vB out),tot,true⟩,⟨129,.lst [.ifc 74 (.loc 0 0)],1,true⟩] E Q:=by
 refine sm_ (?_:((-10000000000000:Int)<=(1:Int)/\(4:Int)<=(10000000000000:Int))/\∃ (out_1:List Int),((76=76/\2=2/\5=5/\vB out=vB out_1)/\WOK out_1 n cap tot/\n<=1000000)/\∃ (v:Int),LoadE Try.prog E 3 y (off+0) (I v)/\∀ (o':List Int×Bool) (n' cap' tot':Nat),Hyp (wnum (out_1,bad) v (1:Int) (4:Int)=o')->WOK o'.fst n' cap' tot'->((-10000000000000:Int)<=(0:Int)/\(59:Int)<=(10000000000000:Int))/\∃ (out:List Int),((76=76/\2=2/\5=5/\vB o'.fst=vB out)/\WOK out n' cap' tot'/\n'<=1000000)/\∃ (v:Int),LoadE Try.prog E 3 y (off+1) (I v)/\∀ (o'_1:List Int×Bool) (n' cap' tot':Nat),Hyp (wnum (out,o'.snd) v (0:Int) (59:Int)=o'_1)->WOK o'_1.fst n' cap' tot'->((-10000000000000:Int)<=(-1:Int)/\(59:Int)<=(10000000000000:Int))/\∃ (out:List Int),((76=76/\2=2/\5=5/\vB o'_1.fst=vB out)/\WOK out n' cap' tot'/\n'<=1000000)/\∃ (v:Int),LoadE Try.prog E 3 y (off+2) (I v)/\∀ (o':List Int×Bool) (n' cap' tot':Nat),Hyp (wnum (out,o'_1.snd) v (-1:Int) (59:Int)=o')->WOK o'.fst n' cap' tot'->((-10000000000000:Int)<=(0:Int)/\(10000000000000:Int)<=(10000000000000:Int))/\∃ (out:List Int),((76=76/\2=2/\5=5/\vB o'.fst=vB out)/\WOK out n' cap' tot'/\n'<=1000000)/\∃ (v:Int),LoadE Try.prog E 3 y (off+3) (I v)/\∀ (o'_2:List Int×Bool) (n' cap' tot':Nat),Hyp (wnum (out,o'.snd) v (0:Int) (10000000000000:Int)=o'_2)->WOK o'_2.fst n' cap' tot'->((-10000000000000:Int)<=(0:Int)/\(10000000000000:Int)<=(10000000000000:Int))/\∃ (out:List Int),((76=76/\2=2/\5=5/\vB o'_2.fst=vB out)/\WOK out n' cap' tot'/\n'<=1000000)/\∃ (v:Int),LoadE Try.prog E 3 y (off+4) (I v)/\∀ (o':List Int×Bool) (n' cap' tot':Nat),Hyp (wnum (out,o'_2.snd) v (0:Int) (10000000000000:Int)=o')->WOK o'.fst n' cap' tot'->((-10000000000000:Int)<=(0:Int)/\(2000000:Int)<=(10000000000000:Int))/\∃ (out:List Int),((76=76/\2=2/\5=5/\vB o'.fst=vB out)/\WOK out n' cap' tot'/\n'<=1000000)/\∃ (v:Int),LoadE Try.prog E 3 y (off+5) (I v)/\∀ (o'_3:List Int×Bool) (n' cap' tot':Nat),Hyp (wnum (out,o'.snd) v (0:Int) (2000000:Int)=o'_3)->WOK o'_3.fst n' cap' tot'->((-10000000000000:Int)<=(0:Int)/\(500002:Int)<=(10000000000000:Int))/\∃ (out:List Int),((76=76/\2=(2:Nat)/\5=(5:Nat)/\vB o'_3.fst=vB out)/\WOK out n' cap' tot'/\n'<=(1000000:Nat))/\∃ (v:Int),LoadE Try.prog E 3 y (off+(6:Nat)+0) (I v)/\∀ (o':List Int×Bool) (n' cap' tot':Nat),Hyp (wnum (out,o'_3.snd) v (0:Int) (500002:Int)=o')->WOK o'.fst n' cap' tot'->((-10000000000000:Int)<=(0:Int)/\(500002:Int)<=(10000000000000:Int))/\∃ (out:List Int),(((76:Nat)=(76:Nat)/\(2:Nat)=(2:Nat)/\(5:Nat)=(5:Nat)/\vB o'.fst=vB out)/\WOK out n' cap' tot'/\n'<=(1000000:Nat))/\∃ (v:Int),LoadE Try.prog E (3:Nat) y (off+(6:Nat)+(1:Nat)) (I v)/\∀ (o'_4:List Int×Bool) (n' cap' tot':Nat),Hyp (wnum (out,o'.snd) v (0:Int) (500002:Int)=o'_4)->WOK o'_4.fst n' cap' tot'->Q (SV.tup []) [⟨(76:Nat),Row.lst [SV.slc (12:Nat) (0:Nat) n' cap',B o'_4.snd],(2:Nat),true⟩,⟨(5:Nat),Row.lst [],(0:Nat),false⟩,⟨(129:Nat),Row.lst [SV.ifc (74:Nat) (SV.loc (0:Nat) (0:Nat))],(1:Nat),true⟩,⟨(5:Nat),Row.lst [],(0:Nat),false⟩,⟨(5:Nat),Row.lst [],(0:Nat),false⟩,⟨(5:Nat),Row.lst [],(0:Nat),false⟩,⟨(131:Nat),Row.lst [SV.rp y (off+(3:Nat)),SV.rp y (off+(4:Nat))],(2:Nat),true⟩,⟨(5:Nat),Row.lst [],(0:Nat),false⟩,⟨(5:Nat),Row.lst [],(0:Nat),false⟩,⟨(5:Nat),Row.lst [],(0:Nat),false⟩,⟨(131:Nat),Row.lst [SV.rp y (off+(6:Nat)+(0:Nat)),SV.rp y (off+(6:Nat)+(1:Nat))],(2:Nat),true⟩,⟨(5:Nat),Row.lst [],(0:Nat),false⟩,⟨(5:Nat),Row.vals (vB o'_4.fst),tot',true⟩] E)
 refine ⟨by decide,_,⟨⟨rfl,rfl,rfl,rfl⟩,W,by omega⟩,_,hx 0 (by decide),fun o1 n1 c1 t1 q1 W1=>?_⟩
 have q1:wnum (out,bad) (x.getD 0 0) (1) 4=o1:=q1
 have l1:=len10 q1 W W1
 refine ⟨by decide,_,⟨⟨rfl,rfl,rfl,rfl⟩,W1,by omega⟩,_,hx 1 (by decide),fun o2 n2 c2 t2 q2 W2=>?_⟩
 have q2:wnum o1 (x.getD 1 0) (0) 59=o2:=q2
 have l2:=len10 q2 W1 W2
 refine ⟨by decide,_,⟨⟨rfl,rfl,rfl,rfl⟩,W2,by omega⟩,_,hx 2 (by decide),fun o3 n3 c3 t3 q3 W3=>?_⟩
 have q3:wnum o2 (x.getD 2 0) (-1) 59=o3:=q3
 have l3:=len10 q3 W2 W3
 refine ⟨by decide,_,⟨⟨rfl,rfl,rfl,rfl⟩,W3,by omega⟩,_,hx 3 (by decide),fun o4 n4 c4 t4 q4 W4=>?_⟩
 have q4:wnum o3 (x.getD 3 0) (0) 10000000000000=o4:=q4
 have l4:=len10 q4 W3 W4
 refine ⟨by decide,_,⟨⟨rfl,rfl,rfl,rfl⟩,W4,by omega⟩,_,hx 4 (by decide),fun o5 n5 c5 t5 q5 W5=>?_⟩
 have q5:wnum o4 (x.getD 4 0) (0) 10000000000000=o5:=q5
 have l5:=len10 q5 W4 W5
 refine ⟨by decide,_,⟨⟨rfl,rfl,rfl,rfl⟩,W5,by omega⟩,_,hx 5 (by decide),fun o6 n6 c6 t6 q6 W6=>?_⟩
 have q6:wnum o5 (x.getD 5 0) (0) 2000000=o6:=q6
 have l6:=len10 q6 W5 W6
 refine ⟨by decide,_,⟨⟨rfl,rfl,rfl,rfl⟩,W6,by omega⟩,_,hx 6 (by decide),fun o7 n7 c7 t7 q7 W7=>?_⟩
 have q7:wnum o6 (x.getD 6 0) (0) 500002=o7:=q7
 have l7:=len10 q7 W6 W7
 refine ⟨by decide,_,⟨⟨rfl,rfl,rfl,rfl⟩,W7,by omega⟩,_,hx 7 (by decide),fun o8 n8 c8 t8 q8 W8=>?_⟩
 have q8:wnum o7 (x.getD 7 0) (0) 500002=o8:=q8
 have l8:=len10 q8 W7 W8
 exact hQ _ _ (cloK_intro [some 0,some 1,some 2,some 12] (h o8 n8 c8 t8 (by show weI its94 (out,bad) x=_;simp only [weI,its94,List.foldl,wItem];rw [q1,q2,q3,q4,q5,q6,q7,q8]) W8) (wkH mr_))
def its68:List Item:=[(0,some (0,59))]
theorem e68 {bad:Bool} {x:List Int} (W:WOK out n cap tot) (hs:n<=900000) (hx:∀ j,j<1->LoadE Try.prog E 3 y (off+j) (.raw (.int .i64 (x.getD j 0))))
  (h:∀ (o':List Int×Bool) (n' cap' tot':Nat),Hyp (weI its68 (out,bad) x=o')->WOK o'.1 n' cap' tot'->KK (.tup []) [⟨76,.lst [.slc 3 0 n' cap',B o'.2],2,true⟩,deadB,⟨129,.lst [.ifc 74 (.loc 0 0)],1,true⟩,⟨5,.vals (vB o'.1),tot',true⟩] E) (hQ:∀ s bx',cloK 3 KK s bx' E->Q s bx' E):
  EntB Y1 6 Try.f68 [.rp y off,.loc 2 0] [⟨76,.lst [.slc 1 0 n cap,B bad],2,true⟩,⟨5,.vals (vB out),tot,true⟩,⟨129,.lst [.ifc 74 (.loc 0 0)],1,true⟩] E Q:=by
 refine sm_ (?_:((-10000000000000:Int)<=(0:Int)/\(59:Int)<=(10000000000000:Int))/\∃ (out_1:List Int),((76=76/\2=2/\5=5/\vB out=vB out_1)/\WOK out_1 n cap tot/\n<=1000000)/\∃ (v:Int),LoadE Try.prog E 3 y off (I v)/\∀ (o':List Int×Bool) (n' cap' tot':Nat),Hyp (wnum (out_1,bad) v (0:Int) (59:Int)=o')->WOK o'.fst n' cap' tot'->Q (SV.tup []) [⟨76,Row.lst [SV.slc 3 0 n' cap',B o'.snd],2,true⟩,⟨5,Row.lst [],0,false⟩,⟨129,Row.lst [SV.ifc 74 (SV.loc 0 0)],1,true⟩,⟨5,Row.vals (vB o'.fst),tot',true⟩] E)
 refine ⟨by decide,_,⟨⟨rfl,rfl,rfl,rfl⟩,W,by omega⟩,_,hx 0 (by decide),fun o1 n1 c1 t1 q1 W1=>?_⟩
 have q1:wnum (out,bad) (x.getD 0 0) (0) 59=o1:=q1
 have l1:=len10 q1 W W1
 exact hQ _ _ (cloK_intro [some 0,some 1,some 2,some 3] (h o1 n1 c1 t1 (by show weI its68 (out,bad) x=_;simp only [weI,its68,List.foldl,wItem];rw [q1]) W1) (wkH mr_))
theorem e96 {bad:Bool} {x:List Int} (W:WOK out n cap tot) (hs:n<=900000) (hx:∀ j,j<1->LoadE Try.prog E 32 y (off+j) (.raw (.int .u64 (x.getD j 0))))
  (h:∀ (o':List Int×Bool) (n' cap' tot':Nat),Hyp (weD (out,bad) x=o')->WOK o'.1 n' cap' tot'->KK (.tup []) [⟨76,.lst [.slc 3 0 n' cap',B o'.2],2,true⟩,deadB,⟨129,.lst [.ifc 74 (.loc 0 0)],1,true⟩,⟨5,.vals (vB o'.1),tot',true⟩] E) (hQ:∀ s bx',cloK 3 KK s bx' E->Q s bx' E):
  EntB Y1 6 Try.f96 [.rp y off,.loc 2 0] [⟨76,.lst [.slc 1 0 n cap,B bad],2,true⟩,⟨5,.vals (vB out),tot,true⟩,⟨129,.lst [.ifc 74 (.loc 0 0)],1,true⟩] E Q:=by
 refine sm_ (?_:∃ (out_1:List Int),((76=76/\2=2/\5=5/\vB out=vB out_1)/\WOK out_1 n cap tot/\n<=1000000)/\∃ (v:Int),LoadE Try.prog E 32 y off (SV.raw (Value.int IntKind.u64 v))/\∀ (o':List Int×Bool) (n' cap' tot':Nat),Hyp ((out_1++digB v,bad)=o')->WOK o'.fst n' cap' tot'->Q (SV.tup []) [⟨76,Row.lst [SV.slc 3 0 n' cap',B o'.snd],2,true⟩,⟨5,Row.lst [],0,false⟩,⟨129,Row.lst [SV.ifc 74 (SV.loc 0 0)],1,true⟩,⟨5,Row.vals (vB o'.fst),tot',true⟩] E)
 refine ⟨_,⟨⟨rfl,rfl,rfl,rfl⟩,W,by omega⟩,_,hx 0 (by decide),fun o1 n1 c1 t1 q1 W1=>?_⟩
 have q1:wdig (out,bad) (x.getD 0 0)=o1:=q1
 exact hQ _ _ (cloK_intro [some 0,some 1,some 2,some 3] (h o1 n1 c1 t1 q1 W1) (wkH mr_))
end Go.Proofs.Ytnjmojacdkjfoaa.BeaconOwn
