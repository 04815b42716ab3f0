/- What functions of the program compute; plain lemmas on it. Conditions: none. -/
import Derived.Test.YtnjmojacdkjfoaaBb15
namespace Go.Proofs.Ytnjmojacdkjfoaa.BeaconOwn
open Go Go.Sx
set_option maxRecDepth 100000
set_option maxHeartbeats 4000000
set_option linter.unusedVariables false
set_option linter.unusedSimpArgs false
variable {E:Mem} {K:SV->Mem->Prop}
variable {i c n e e14 n14 c12 e27 c27 c18 n28 e12 n13 e13 n11 c13 n12 c17 e28 c28 e17 e18 c16 e16 n18 n27 n17 c11 c14 e11 n16 m k cap tot:Nat} {b d b28 b13 b27 b16 d13 b12 d27 d28 d11 d12 d16 b17 d17 b11 b18 d18 d14 b14:Option Addr} {q:IntKind} {T:TypeId} {zs data:List Int} {page hops seed seq asn nver size fresh bound boot from_ start rank pages parent next first version p hi v fr:Int} {full has:Bool} {uses grants asks below got mail words proof:List (List Int)} {x:Int×Bc} {xs:List (Int×Bc)} {rv vs:List Value} {α:Type} {KK Q:KT} {o:List Int×Bool} {F:List Int×Bool->List Int->List Int×Bool} {rs:List (List Value)}
noncomputable def V0:Cx:={ P:=Try.prog,inl:=fun f=>List.contains [] f,tab:=fun _ _ _ _=>False,isB:=fun _=>false,tabB:=fun _ _ _ _ _=>False,opt:={ unroll:=0,carry:=[5] },muts:=mutsD }
theorem okV0:CxOK V0:=CxOK.four (fun _ _ _ _ h=>h.elim) (by kernel_rfl) (okInl (by kernel_rfl)) (fun _ _ _ _ _ h=>h.elim)
theorem rowK3 {xs:List (List Int)} (h:SL (RK q 3) E b n c xs) (hu:(match Try.prog.underlying T with |some (.struct _)=>true|_=>false)=true) (hs:(Try.prog.info? T).map (·.size)=some 3) {x:List Int} (hx:xs[i]? =some x):
  ∃ a0 a1 a2:Int,x=[a0,a1,a2]/\LoadE Try.prog E T (.slice b n c) (i*3) (.agg [.raw (.int q a0),.raw (.int q a1),.raw (.int q a2)]):=by
 obtain ⟨r,⟨h1,h2⟩,h3⟩:=SL.loadE (RK_ok q (by decide)) h hu hs hx
 match x,h2 with
 | [a0,a1,a2],_=>subst h1;exact ⟨a0,a1,a2,rfl,h3⟩
theorem rowK4 {xs:List (List Int)} (h:SL (RK q 4) E b n c xs) (hu:(match Try.prog.underlying T with |some (.struct _)=>true|_=>false)=true) (hs:(Try.prog.info? T).map (·.size)=some 4) {x:List Int} (hx:xs[i]? =some x):
  ∃ a0 a1 a2 a3:Int,x=[a0,a1,a2,a3]/\LoadE Try.prog E T (.slice b n c) (i*4) (.agg [.raw (.int q a0),.raw (.int q a1),.raw (.int q a2),.raw (.int q a3)]):=by
 obtain ⟨r,⟨h1,h2⟩,h3⟩:=SL.loadE (RK_ok q (by decide)) h hu hs hx
 match x,h2 with
 | [a0,a1,a2,a3],_=>subst h1;exact ⟨a0,a1,a2,a3,rfl,h3⟩
theorem rowK5 {xs:List (List Int)} (h:SL (RK q 5) E b n c xs) (hu:(match Try.prog.underlying T with |some (.struct _)=>true|_=>false)=true) (hs:(Try.prog.info? T).map (·.size)=some 5) {x:List Int} (hx:xs[i]? =some x):
  ∃ a0 a1 a2 a3 a4:Int,x=[a0,a1,a2,a3,a4]/\LoadE Try.prog E T (.slice b n c) (i*5) (.agg [.raw (.int q a0),.raw (.int q a1),.raw (.int q a2),.raw (.int q a3),.raw (.int q a4)]):=by
 obtain ⟨r,⟨h1,h2⟩,h3⟩:=SL.loadE (RK_ok q (by decide)) h hu hs hx
 match x,h2 with
 | [a0,a1,a2,a3,a4],_=>subst h1;exact ⟨a0,a1,a2,a3,a4,rfl,h3⟩
theorem rowK8 {xs:List (List Int)} (h:SL (RK q 8) E b n c xs) (hu:(match Try.prog.underlying T with |some (.struct _)=>true|_=>false)=true) (hs:(Try.prog.info? T).map (·.size)=some 8) {x:List Int} (hx:xs[i]? =some x):
  ∃ a0 a1 a2 a3 a4 a5 a6 a7:Int,x=[a0,a1,a2,a3,a4,a5,a6,a7]/\LoadE Try.prog E T (.slice b n c) (i*8) (.agg [.raw (.int q a0),.raw (.int q a1),.raw (.int q a2),.raw (.int q a3),.raw (.int q a4),.raw (.int q a5),.raw (.int q a6),.raw (.int q a7)]):=by
 obtain ⟨r,⟨h1,h2⟩,h3⟩:=SL.loadE (RK_ok q (by decide)) h hu hs hx
 match x,h2 with
 | [a0,a1,a2,a3,a4,a5,a6,a7],_=>subst h1;exact ⟨a0,a1,a2,a3,a4,a5,a6,a7,rfl,h3⟩
def shs34 (b d:Option Addr) (n c e i:Nat) (E:Mem):St:=⟨[oL b n c,oL d n e,none,none,none,oI (i:Nat)]++List.replicate 20 none,[],E⟩
theorem rn34 {xs:List (List Int)} {K:SV->Mem->Prop} (h0:SL (RK .i64 8) E b n c xs) (h1:SL (RK .i64 8) E d n e xs) (hn:n<=1000000) (hi:i<=n) (h:K (B true) E)
  (ih:i<n->Lp V0 8 Try.f34 [1,1,0,1,0] 0 (pubK E K) (shs34 b d n c e (i+1) E)):Rnd V0 8 Try.f34 [1,1,0,1,0] 0 (pubK E K) (shs34 b d n c e i E):=by
 refine sm_ (?_:bif decide ((NI i)<(NI n)) then req (0<=(NI i)/\(NI i)<(NI n)) ((∃ (cs:List Value),E (VS b n c) cs/\(cs=[]->False))/\∃ (n_1:Int),∃ (n_2:Int),∃ (n_3:Int),∃ (n_4:Int),∃ (n_5:Int),∃ (n_6:Int),∃ (n_7:Int),∃ (n_8:Int),LoadE V0.P E 127 (VS b n c) (Int.toNat (NI i)*8) (SV.agg [I n_1,I n_2,I n_3,I n_4,I n_5,I n_6,I n_7,I n_8])/\req (0<=(NI i)/\(NI i)<(NI n)) ((∃ (cs:List Value),E (VS d n e) cs/\(cs=[]->False))/\∃ (n_9:Int),∃ (n_10:Int),∃ (n_11:Int),∃ (n_12:Int),∃ (n_13:Int),∃ (n_14:Int),∃ (n_15:Int),∃ (n_16:Int),LoadE V0.P E 127 (VS d n e) (Int.toNat (NI i)*8) (SV.agg [I n_9,I n_10,I n_11,I n_12,I n_13,I n_14,I n_15,I n_16])/\bif !(n_1==n_9&&(n_2==n_10&&(n_3==n_11&&(n_4==n_12&&(n_5==n_13&&(n_6==n_14&&(n_7==n_15&&(n_8==n_16&&true)&&true))))))) then Mem.le E E/\K (B false) E else Lp V0 8 Try.f34 [1,1,0,1,0] 0 (pubK E K) { fr:=some (L b n c)::oL d n e::none::none::none::oI (WI ((NI i)+1))::no16 (no4 []),bx:=[],E:=E:St })) else Mem.le E E/\K (B true) E)
 delta WI NI VS no4 no16
 have hl:=h0.len
 refine condC (fun g=>?_) (fun g=>⟨mr_,h⟩)
 have g:i<n:=by simpa using g
 have w:IntKind.wrap .i64 ((i:Int)+1)=((i+1:Nat):Int):=by rw [wrap_i64 (by omega)];omega
 obtain ⟨x,hx⟩:∃ x,xs[i]? =some x:=⟨_,List.getElem?_eq_getElem (by omega)⟩
 obtain ⟨a0,a1,a2,a3,a4,a5,a6,a7,e0,l0⟩:=rowK8 (T:=127) h0 rfl rfl hx
 obtain ⟨b0,b1,b2,b3,b4,b5,b6,b7,e1,l1⟩:=rowK8 (T:=127) h1 rfl rfl hx
 rw [e0] at e1;cases e1
 refine req_intro (by omega) ⟨SL.ne (RK_ok .i64 (by decide)) h0 g,a0,a1,a2,a3,a4,a5,a6,a7,l0,req_intro (by omega) ⟨SL.ne (RK_ok .i64 (by decide)) h1 g,a0,a1,a2,a3,a4,a5,a6,a7,l1,condC (fun q=>absurd q (by simp)) (fun _=>?_)⟩⟩
 rw [w];exact Lp_re [] (ih g) (wkH mr_)
theorem ss34 {xs:List (List Int)} (h0:SL (RK .i64 8) E b n c xs) (h1:SL (RK .i64 8) E d n e xs) (hn:n<=1000000) (h:K (B true) E):Ent V0 8 Try.f34 [L b n c,L d n e] E K:=by
 refine sm_ (?_:bif (NI n) !=(NI n) then Mem.le E E/\K (B false) E else Lp V0 8 Try.f34 [1,1,0,1,0] 0 (pubK E K) { fr:=some (L b n c)::oL d n e::none::none::none::oI 0::oL b n c::oI (NI n)::oL d n e::oI (NI n)::oB ((NI n) !=(NI n))::no8 (no4 (no2 (none::[]))),bx:=[],E:=E:St })
 delta NI no2 no4 no8
 exact condC (fun q=>absurd q (by simp)) (fun _=>Lp_re [] (Lp_ind okV0 (fun x:{i:Nat//i<=n}=>shs34 b d n c e x.1 E) (fun x=>n-x.1) (fun x ih=>rn34 h0 h1 hn x.2 h fun g=>ih ⟨x.1+1,g⟩ (by show n-(_+1)<n-_;omega)) ⟨0,Nat.zero_le _⟩) (wkH mr_))
def shs15 (b d:Option Addr) (n c e i:Nat) (E:Mem):St:=⟨[oL b n c,oL d n e,none,none,none,oI (i:Nat)]++List.replicate 20 none,[],E⟩
theorem rn15 {K:SV->Mem->Prop} (h0:Bs E b n c zs) (h1:Bs E d n e zs) (hn:n<=1000000) (hi:i<=n) (h:K (B true) E)
  (ih:i<n->Lp V0 8 Try.f15 [1,1,0,1,0] 0 (pubK E K) (shs15 b d n c e (i+1) E)):Rnd V0 8 Try.f15 [1,1,0,1,0] 0 (pubK E K) (shs15 b d n c e i E):=by
 refine sm_ (?_:bif decide ((NI i)<(NI n)) then req (0<=(NI i)/\(NI i)<(NI n)) ((∃ (cs:List Value),E (VS b n c) cs/\(cs=[]->False))/\∃ (n_1:Int),LoadE V0.P E 5 (VS b n c) (Int.toNat (NI i)*1) (SV.raw (U8 n_1))/\req (0<=(NI i)/\(NI i)<(NI n)) ((∃ (cs:List Value),E (VS d n e) cs/\(cs=[]->False))/\∃ (n_2:Int),LoadE V0.P E 5 (VS d n e) (Int.toNat (NI i)*1) (SV.raw (U8 n_2))/\bif n_1 !=n_2 then Mem.le E E/\K (B false) E else Lp V0 8 Try.f15 [1,1,0,1,0] 0 (pubK E K) { fr:=some (L b n c)::oL d n e::none::none::none::oI (WI ((NI i)+1))::no16 (no4 []),bx:=[],E:=E:St })) else Mem.le E E/\K (B true) E)
 delta WI NI U8 VS no4 no16
 have hl:=h0.2.1
 refine condC (fun g=>?_) (fun g=>⟨mr_,h⟩)
 have g:i<n:=by simpa using g
 have w:IntKind.wrap .i64 ((i:Int)+1)=((i+1:Nat):Int):=by rw [wrap_i64 (by omega)];omega
 refine req_intro (by omega) ⟨h0.ne g,zs.getD i 0,h0.load rfl g,req_intro (by omega) ⟨h1.ne g,zs.getD i 0,h1.load rfl g,condC (fun q=>absurd q (by simp)) (fun _=>?_)⟩⟩
 rw [w];exact Lp_re [] (ih g) (wkH mr_)
theorem ss15 (h0:Bs E b n c zs) (h1:Bs E d n e zs) (hn:n<=1000000) (h:K (B true) E):Ent V0 8 Try.f15 [L b n c,L d n e] E K:=by
 refine sm_ (?_:bif (NI n) !=(NI n) then Mem.le E E/\K (B false) E else Lp V0 8 Try.f15 [1,1,0,1,0] 0 (pubK E K) { fr:=some (L b n c)::oL d n e::none::none::none::oI 0::oL b n c::oI (NI n)::oL d n e::oI (NI n)::oB ((NI n) !=(NI n))::no8 (no4 (no2 (none::[]))),bx:=[],E:=E:St })
 delta NI no2 no4 no8
 exact condC (fun q=>absurd q (by simp)) (fun _=>Lp_re [] (Lp_ind okV0 (fun x:{i:Nat//i<=n}=>shs15 b d n c e x.1 E) (fun x=>n-x.1) (fun x ih=>rn15 h0 h1 hn x.2 h fun g=>ih ⟨x.1+1,g⟩ (by show n-(_+1)<n-_;omega)) ⟨0,Nat.zero_le _⟩) (wkH mr_))
noncomputable def V1:Cx:={ P:=Try.prog,inl:=fun f=>List.contains [] f,tab:=fun _ _ _ _=>False,isB:=fun _=>false,tabB:=fun _ _ _ _ _=>False,opt:={ unroll:=0,carry:=[5,6,7,8,9,10] },muts:=mutsD }
theorem okV1:CxOK V1:=CxOK.four (fun _ _ _ _ h=>h.elim) (by kernel_rfl) (okInl (by kernel_rfl)) (fun _ _ _ _ _ h=>h.elim)
def sh33_0 (from_:Int) (asn:Int) (boot:Int) (hops:Int) (bound:Int) (fresh:Int) (seq:Int) (rank:Int) (parent:Int) (first:Int) (next:Int) (full:Bool) (nver:Int) (size:Int) (dig:Int) (start:Int) (pages:Int) (version:Int) (page:Int) (seed:Int) (has:Bool) (b11 d11:Option Addr) (n11 c11 e11:Nat) (b12 d12:Option Addr) (n12 c12 e12:Nat) (b13 d13:Option Addr) (n13 c13 e13:Nat) (b14 d14:Option Addr) (n14 c14 e14:Nat) (b16 d16:Option Addr) (n16 c16 e16:Nat) (b17 d17:Option Addr) (n17 c17 e17:Nat) (b18 d18:Option Addr) (n18 c18 e18:Nat) (b27 d27:Option Addr) (n27 c27 e27:Nat) (b28 d28:Option Addr) (n28 c28 e28:Nat) (i:Nat) (E:Mem):St:=⟨[none,none,oc 0 0,oc 1 0,none,oB true,oI (i:Nat)]++List.replicate 153 none,[⟨40,.lst [I from_,I asn,I boot,I hops,I bound,I fresh,I seq,I rank,I parent,I first,I next,L b11 n11 c11,L b12 n12 c12,L b13 n13 c13,L b14 n14 c14,B full,L b16 n16 c16,L b17 n17 c17,L b18 n18 c18,I nver,I size,.raw (.int .u64 dig),I start,I pages,I version,I page,I seed,L b27 n27 c27,L b28 n28 c28,B has],30,true⟩,⟨40,.lst [I from_,I asn,I boot,I hops,I bound,I fresh,I seq,I rank,I parent,I first,I next,L d11 n11 e11,L d12 n12 e12,L d13 n13 e13,L d14 n14 e14,B full,L d16 n16 e16,L d17 n17 e17,L d18 n18 e18,I nver,I size,.raw (.int .u64 dig),I start,I pages,I version,I page,I seed,L d27 n27 e27,L d28 n28 e28,B has],30,true⟩],E⟩
def sh33_1 (from_:Int) (asn:Int) (boot:Int) (hops:Int) (bound:Int) (fresh:Int) (seq:Int) (rank:Int) (parent:Int) (first:Int) (next:Int) (full:Bool) (nver:Int) (size:Int) (dig:Int) (start:Int) (pages:Int) (version:Int) (page:Int) (seed:Int) (has:Bool) (b11 d11:Option Addr) (n11 c11 e11:Nat) (b12 d12:Option Addr) (n12 c12 e12:Nat) (b13 d13:Option Addr) (n13 c13 e13:Nat) (b14 d14:Option Addr) (n14 c14 e14:Nat) (b16 d16:Option Addr) (n16 c16 e16:Nat) (b17 d17:Option Addr) (n17 c17 e17:Nat) (b18 d18:Option Addr) (n18 c18 e18:Nat) (b27 d27:Option Addr) (n27 c27 e27:Nat) (b28 d28:Option Addr) (n28 c28 e28:Nat) (i:Nat) (E:Mem):St:=⟨[none,none,oc 0 0,oc 1 0,none,oB true,none,oI (i:Nat)]++List.replicate 152 none,[⟨40,.lst [I from_,I asn,I boot,I hops,I bound,I fresh,I seq,I rank,I parent,I first,I next,L b11 n11 c11,L b12 n12 c12,L b13 n13 c13,L b14 n14 c14,B full,L b16 n16 c16,L b17 n17 c17,L b18 n18 c18,I nver,I size,.raw (.int .u64 dig),I start,I pages,I version,I page,I seed,L b27 n27 c27,L b28 n28 c28,B has],30,true⟩,⟨40,.lst [I from_,I asn,I boot,I hops,I bound,I fresh,I seq,I rank,I parent,I first,I next,L d11 n11 e11,L d12 n12 e12,L d13 n13 e13,L d14 n14 e14,B full,L d16 n16 e16,L d17 n17 e17,L d18 n18 e18,I nver,I size,.raw (.int .u64 dig),I start,I pages,I version,I page,I seed,L d27 n27 e27,L d28 n28 e28,B has],30,true⟩],E⟩
def sh33_2 (from_:Int) (asn:Int) (boot:Int) (hops:Int) (bound:Int) (fresh:Int) (seq:Int) (rank:Int) (parent:Int) (first:Int) (next:Int) (full:Bool) (nver:Int) (size:Int) (dig:Int) (start:Int) (pages:Int) (version:Int) (page:Int) (seed:Int) (has:Bool) (b11 d11:Option Addr) (n11 c11 e11:Nat) (b12 d12:Option Addr) (n12 c12 e12:Nat) (b13 d13:Option Addr) (n13 c13 e13:Nat) (b14 d14:Option Addr) (n14 c14 e14:Nat) (b16 d16:Option Addr) (n16 c16 e16:Nat) (b17 d17:Option Addr) (n17 c17 e17:Nat) (b18 d18:Option Addr) (n18 c18 e18:Nat) (b27 d27:Option Addr) (n27 c27 e27:Nat) (b28 d28:Option Addr) (n28 c28 e28:Nat) (i:Nat) (E:Mem):St:=⟨[none,none,oc 0 0,oc 1 0,none,oB true,none,none,oI (i:Nat)]++List.replicate 151 none,[⟨40,.lst [I from_,I asn,I boot,I hops,I bound,I fresh,I seq,I rank,I parent,I first,I next,L b11 n11 c11,L b12 n12 c12,L b13 n13 c13,L b14 n14 c14,B full,L b16 n16 c16,L b17 n17 c17,L b18 n18 c18,I nver,I size,.raw (.int .u64 dig),I start,I pages,I version,I page,I seed,L b27 n27 c27,L b28 n28 c28,B has],30,true⟩,⟨40,.lst [I from_,I asn,I boot,I hops,I bound,I fresh,I seq,I rank,I parent,I first,I next,L d11 n11 e11,L d12 n12 e12,L d13 n13 e13,L d14 n14 e14,B full,L d16 n16 e16,L d17 n17 e17,L d18 n18 e18,I nver,I size,.raw (.int .u64 dig),I start,I pages,I version,I page,I seed,L d27 n27 e27,L d28 n28 e28,B has],30,true⟩],E⟩
def sh33_3 (from_:Int) (asn:Int) (boot:Int) (hops:Int) (bound:Int) (fresh:Int) (seq:Int) (rank:Int) (parent:Int) (first:Int) (next:Int) (full:Bool) (nver:Int) (size:Int) (dig:Int) (start:Int) (pages:Int) (version:Int) (page:Int) (seed:Int) (has:Bool) (b11 d11:Option Addr) (n11 c11 e11:Nat) (b12 d12:Option Addr) (n12 c12 e12:Nat) (b13 d13:Option Addr) (n13 c13 e13:Nat) (b14 d14:Option Addr) (n14 c14 e14:Nat) (b16 d16:Option Addr) (n16 c16 e16:Nat) (b17 d17:Option Addr) (n17 c17 e17:Nat) (b18 d18:Option Addr) (n18 c18 e18:Nat) (b27 d27:Option Addr) (n27 c27 e27:Nat) (b28 d28:Option Addr) (n28 c28 e28:Nat) (i:Nat) (E:Mem):St:=⟨[none,none,oc 0 0,oc 1 0,none,oB true,none,none,none,oI (i:Nat)]++List.replicate 150 none,[⟨40,.lst [I from_,I asn,I boot,I hops,I bound,I fresh,I seq,I rank,I parent,I first,I next,L b11 n11 c11,L b12 n12 c12,L b13 n13 c13,L b14 n14 c14,B full,L b16 n16 c16,L b17 n17 c17,L b18 n18 c18,I nver,I size,.raw (.int .u64 dig),I start,I pages,I version,I page,I seed,L b27 n27 c27,L b28 n28 c28,B has],30,true⟩,⟨40,.lst [I from_,I asn,I boot,I hops,I bound,I fresh,I seq,I rank,I parent,I first,I next,L d11 n11 e11,L d12 n12 e12,L d13 n13 e13,L d14 n14 e14,B full,L d16 n16 e16,L d17 n17 e17,L d18 n18 e18,I nver,I size,.raw (.int .u64 dig),I start,I pages,I version,I page,I seed,L d27 n27 e27,L d28 n28 e28,B has],30,true⟩],E⟩
def sh33_4 (from_:Int) (asn:Int) (boot:Int) (hops:Int) (bound:Int) (fresh:Int) (seq:Int) (rank:Int) (parent:Int) (first:Int) (next:Int) (full:Bool) (nver:Int) (size:Int) (dig:Int) (start:Int) (pages:Int) (version:Int) (page:Int) (seed:Int) (has:Bool) (b11 d11:Option Addr) (n11 c11 e11:Nat) (b12 d12:Option Addr) (n12 c12 e12:Nat) (b13 d13:Option Addr) (n13 c13 e13:Nat) (b14 d14:Option Addr) (n14 c14 e14:Nat) (b16 d16:Option Addr) (n16 c16 e16:Nat) (b17 d17:Option Addr) (n17 c17 e17:Nat) (b18 d18:Option Addr) (n18 c18 e18:Nat) (b27 d27:Option Addr) (n27 c27 e27:Nat) (b28 d28:Option Addr) (n28 c28 e28:Nat) (i:Nat) (E:Mem):St:=⟨[none,none,oc 0 0,oc 1 0,none,oB true,none,none,none,none,oI (i:Nat)]++List.replicate 149 none,[⟨40,.lst [I from_,I asn,I boot,I hops,I bound,I fresh,I seq,I rank,I parent,I first,I next,L b11 n11 c11,L b12 n12 c12,L b13 n13 c13,L b14 n14 c14,B full,L b16 n16 c16,L b17 n17 c17,L b18 n18 c18,I nver,I size,.raw (.int .u64 dig),I start,I pages,I version,I page,I seed,L b27 n27 c27,L b28 n28 c28,B has],30,true⟩,⟨40,.lst [I from_,I asn,I boot,I hops,I bound,I fresh,I seq,I rank,I parent,I first,I next,L d11 n11 e11,L d12 n12 e12,L d13 n13 e13,L d14 n14 e14,B full,L d16 n16 e16,L d17 n17 e17,L d18 n18 e18,I nver,I size,.raw (.int .u64 dig),I start,I pages,I version,I page,I seed,L d27 n27 e27,L d28 n28 e28,B has],30,true⟩],E⟩
theorem rn33_0 {dig:Int} (h0:SL (RK .i64 4) E b11 n11 c11 uses) (h1:SL (RK .i64 4) E d11 n11 e11 uses) (hn:n11<=1000000) (hi:i<=n11) (h:Lp V1 8 Try.f33 [1,1,1,1,0,1,0] 0 (pubK E K) (sh33_1 from_ asn boot hops bound fresh seq rank parent first next full nver size dig start pages version page seed has b11 d11 n11 c11 e11 b12 d12 n12 c12 e12 b13 d13 n13 c13 e13 b14 d14 n14 c14 e14 b16 d16 n16 c16 e16 b17 d17 n17 c17 e17 b18 d18 n18 c18 e18 b27 d27 n27 c27 e27 b28 d28 n28 c28 e28 0 E))
  (ih:i<n11->Lp V1 8 Try.f33 [1,1,1,0,1,0] 0 (pubK E K) (sh33_0 from_ asn boot hops bound fresh seq rank parent first next full nver size dig start pages version page seed has b11 d11 n11 c11 e11 b12 d12 n12 c12 e12 b13 d13 n13 c13 e13 b14 d14 n14 c14 e14 b16 d16 n16 c16 e16 b17 d17 n17 c17 e17 b18 d18 n18 c18 e18 b27 d27 n27 c27 e27 b28 d28 n28 c28 e28 (i+1) E)):Rnd V1 8 Try.f33 [1,1,1,0,1,0] 0 (pubK E K) (sh33_0 from_ asn boot hops bound fresh seq rank parent first next full nver size dig start pages version page seed has b11 d11 n11 c11 e11 b12 d12 n12 c12 e12 b13 d13 n13 c13 e13 b14 d14 n14 c14 e14 b16 d16 n16 c16 e16 b17 d17 n17 c17 e17 b18 d18 n18 c18 e18 b27 d27 n27 c27 e27 b28 d28 n28 c28 e28 i E):=by
 refine sm_ (?_:bif decide ((NI i)<(NI n11)) then req (0<=(NI i)/\(NI i)<(NI n11)) ((∃ (cs:List Value),E (VS b11 n11 c11) cs/\(cs=[]->False))/\∃ (n:Int),∃ (n_1:Int),∃ (n_2:Int),∃ (n_3:Int),LoadE V1.P E 95 (VS b11 n11 c11) (Int.toNat (NI i)*4) (SV.agg [I n,I n_1,I n_2,I n_3])/\req (0<=(NI i)/\(NI i)<(NI n11)) ((∃ (cs:List Value),E (VS d11 n11 e11) cs/\(cs=[]->False))/\∃ (n_4:Int),∃ (n_5:Int),∃ (n_6:Int),∃ (n_7:Int),LoadE V1.P E 95 (VS d11 n11 e11) (Int.toNat (NI i)*4) (SV.agg [I n_4,I n_5,I n_6,I n_7])/\Lp V1 8 Try.f33 [1,1,1,0,1,0] 0 (pubK E K) { fr:=none::none::oc 0 0::oc 1 0::none::oB (bif true then n==n_4&&(n_1==n_5&&true)&&(n_2==n_6&&(n_3==n_7&&true)) else false)::oI (WI ((NI i)+1))::no32 (no32 (no32 (no32 (no16 (no8 (none::[])))))),bx:=[(⟨40,.lst (bcl from_ asn boot hops bound fresh seq rank parent first next full nver size dig start pages version page seed has b11 n11 c11 b12 n12 c12 b13 n13 c13 b14 n14 c14 b16 n16 c16 b17 n17 c17 b18 n18 c18 b27 n27 c27 b28 n28 c28),30,true⟩:Box),⟨40,.lst (bcl from_ asn boot hops bound fresh seq rank parent first next full nver size dig start pages version page seed has d11 n11 e11 d12 n12 e12 d13 n13 e13 d14 n14 e14 d16 n16 e16 d17 n17 e17 d18 n18 e18 d27 n27 e27 d28 n28 e28),30,true⟩],E:=E:St })) else Lp V1 8 Try.f33 [1,1,1,1,0,1,0] 0 (pubK E K) { fr:=none::none::oc 0 0::oc 1 0::none::oB true::oI (NI i)::oI 0::no32 (no8 (no4 (no2 (oI (NI i)::oc 0 11::oL b11 n11 c11::oI (NI n11)::oB (decide ((NI i)<(NI n11)))::no32 (no32 (no32 (no4 (none::[])))))))),bx:=[(⟨40,.lst (bcl from_ asn boot hops bound fresh seq rank parent first next full nver size dig start pages version page seed has b11 n11 c11 b12 n12 c12 b13 n13 c13 b14 n14 c14 b16 n16 c16 b17 n17 c17 b18 n18 c18 b27 n27 c27 b28 n28 c28),30,true⟩:Box),⟨40,.lst (bcl from_ asn boot hops bound fresh seq rank parent first next full nver size dig start pages version page seed has d11 n11 e11 d12 n12 e12 d13 n13 e13 d14 n14 e14 d16 n16 e16 d17 n17 e17 d18 n18 e18 d27 n27 e27 d28 n28 e28),30,true⟩],E:=E:St })
 delta WI NI VS no2 no4 no8 no16 no32 bcl
 have hl:=h0.len
 refine condC (fun g=>?_) (fun g=>Lp_re [some 0,some 1] h (wkH mr_))
 have g:i<n11:=by simpa using g
 have w:IntKind.wrap .i64 ((i:Int)+1)=((i+1:Nat):Int):=by rw [wrap_i64 (by omega)];omega
 obtain ⟨x,hx⟩:∃ x,uses[i]? =some x:=⟨_,List.getElem?_eq_getElem (by omega)⟩
 obtain ⟨a0,a1,a2,a3,e0,l0⟩:=rowK4 (T:=95) h0 rfl rfl hx
 obtain ⟨b0_,b1_,b2_,b3_,e1,l1⟩:=rowK4 (T:=95) h1 rfl rfl hx
 rw [e0] at e1;cases e1
 refine req_intro (by omega) ⟨SL.ne (RK_ok .i64 (by decide)) h0 g,a0,a1,a2,a3,l0,req_intro (by omega) ⟨SL.ne (RK_ok .i64 (by decide)) h1 g,a0,a1,a2,a3,l1,?_⟩⟩
 rw [w]
 simp only [beq_self_eq_true,Bool.and_self,Bool.and_true,cond_true]
 exact Lp_re [some 0,some 1] (ih g) (wkH mr_)
theorem lp33_0 {dig:Int} (h0:SL (RK .i64 4) E b11 n11 c11 uses) (h1:SL (RK .i64 4) E d11 n11 e11 uses) (hn:n11<=1000000) (h:Lp V1 8 Try.f33 [1,1,1,1,0,1,0] 0 (pubK E K) (sh33_1 from_ asn boot hops bound fresh seq rank parent first next full nver size dig start pages version page seed has b11 d11 n11 c11 e11 b12 d12 n12 c12 e12 b13 d13 n13 c13 e13 b14 d14 n14 c14 e14 b16 d16 n16 c16 e16 b17 d17 n17 c17 e17 b18 d18 n18 c18 e18 b27 d27 n27 c27 e27 b28 d28 n28 c28 e28 0 E)):Lp V1 8 Try.f33 [1,1,1,0,1,0] 0 (pubK E K) (sh33_0 from_ asn boot hops bound fresh seq rank parent first next full nver size dig start pages version page seed has b11 d11 n11 c11 e11 b12 d12 n12 c12 e12 b13 d13 n13 c13 e13 b14 d14 n14 c14 e14 b16 d16 n16 c16 e16 b17 d17 n17 c17 e17 b18 d18 n18 c18 e18 b27 d27 n27 c27 e27 b28 d28 n28 c28 e28 0 E):=
 Lp_ind okV1 (fun x:{i:Nat//i<=n11}=>sh33_0 from_ asn boot hops bound fresh seq rank parent first next full nver size dig start pages version page seed has b11 d11 n11 c11 e11 b12 d12 n12 c12 e12 b13 d13 n13 c13 e13 b14 d14 n14 c14 e14 b16 d16 n16 c16 e16 b17 d17 n17 c17 e17 b18 d18 n18 c18 e18 b27 d27 n27 c27 e27 b28 d28 n28 c28 e28 x.1 E) (fun x=>n11-x.1) (fun x ih=>rn33_0 h0 h1 hn x.2 h fun g=>ih ⟨x.1+1,g⟩ (by show n11-(_+1)<n11-_;omega)) ⟨0,Nat.zero_le _⟩
theorem rn33_1 {dig:Int} (h0:SL (RK .i64 5) E b12 n12 c12 grants) (h1:SL (RK .i64 5) E d12 n12 e12 grants) (hn:n12<=1000000) (hi:i<=n12) (h:Lp V1 8 Try.f33 [1,1,1,1,1,0,1,0] 0 (pubK E K) (sh33_2 from_ asn boot hops bound fresh seq rank parent first next full nver size dig start pages version page seed has b11 d11 n11 c11 e11 b12 d12 n12 c12 e12 b13 d13 n13 c13 e13 b14 d14 n14 c14 e14 b16 d16 n16 c16 e16 b17 d17 n17 c17 e17 b18 d18 n18 c18 e18 b27 d27 n27 c27 e27 b28 d28 n28 c28 e28 0 E))
  (ih:i<n12->Lp V1 8 Try.f33 [1,1,1,1,0,1,0] 0 (pubK E K) (sh33_1 from_ asn boot hops bound fresh seq rank parent first next full nver size dig start pages version page seed has b11 d11 n11 c11 e11 b12 d12 n12 c12 e12 b13 d13 n13 c13 e13 b14 d14 n14 c14 e14 b16 d16 n16 c16 e16 b17 d17 n17 c17 e17 b18 d18 n18 c18 e18 b27 d27 n27 c27 e27 b28 d28 n28 c28 e28 (i+1) E)):Rnd V1 8 Try.f33 [1,1,1,1,0,1,0] 0 (pubK E K) (sh33_1 from_ asn boot hops bound fresh seq rank parent first next full nver size dig start pages version page seed has b11 d11 n11 c11 e11 b12 d12 n12 c12 e12 b13 d13 n13 c13 e13 b14 d14 n14 c14 e14 b16 d16 n16 c16 e16 b17 d17 n17 c17 e17 b18 d18 n18 c18 e18 b27 d27 n27 c27 e27 b28 d28 n28 c28 e28 i E):=by
 refine sm_ (?_:bif decide ((NI i)<(NI n12)) then req (0<=(NI i)/\(NI i)<(NI n12)) ((∃ (cs:List Value),E (VS b12 n12 c12) cs/\(cs=[]->False))/\∃ (n:Int),∃ (n_1:Int),∃ (n_2:Int),∃ (n_3:Int),∃ (n_4:Int),LoadE V1.P E 97 (VS b12 n12 c12) (Int.toNat (NI i)*5) (SV.agg [I n,I n_1,I n_2,I n_3,I n_4])/\req (0<=(NI i)/\(NI i)<(NI n12)) ((∃ (cs:List Value),E (VS d12 n12 e12) cs/\(cs=[]->False))/\∃ (n_5:Int),∃ (n_6:Int),∃ (n_7:Int),∃ (n_8:Int),∃ (n_9:Int),LoadE V1.P E 97 (VS d12 n12 e12) (Int.toNat (NI i)*5) (SV.agg [I n_5,I n_6,I n_7,I n_8,I n_9])/\Lp V1 8 Try.f33 [1,1,1,1,0,1,0] 0 (pubK E K) { fr:=none::none::oc 0 0::oc 1 0::none::oB (bif true then n==n_5&&(n_1==n_6&&true)&&(n_2==n_7&&(n_3==n_8&&(n_4==n_9&&true))) else false)::none::oI (WI ((NI i)+1))::no32 (no32 (no32 (no32 (no16 (no8 []))))),bx:=[(⟨40,.lst (bcl from_ asn boot hops bound fresh seq rank parent first next full nver size dig start pages version page seed has b11 n11 c11 b12 n12 c12 b13 n13 c13 b14 n14 c14 b16 n16 c16 b17 n17 c17 b18 n18 c18 b27 n27 c27 b28 n28 c28),30,true⟩:Box),⟨40,.lst (bcl from_ asn boot hops bound fresh seq rank parent first next full nver size dig start pages version page seed has d11 n11 e11 d12 n12 e12 d13 n13 e13 d14 n14 e14 d16 n16 e16 d17 n17 e17 d18 n18 e18 d27 n27 e27 d28 n28 e28),30,true⟩],E:=E:St })) else Lp V1 8 Try.f33 [1,1,1,1,1,0,1,0] 0 (pubK E K) { fr:=none::none::oc 0 0::oc 1 0::none::oB true::none::oI (NI i)::oI 0::no32 (no32 (no2 (oI (NI i)::oc 0 12::oL b12 n12 c12::oI (NI n12)::oB (decide ((NI i)<(NI n12)))::no32 (no32 (no16 []))))),bx:=[(⟨40,.lst (bcl from_ asn boot hops bound fresh seq rank parent first next full nver size dig start pages version page seed has b11 n11 c11 b12 n12 c12 b13 n13 c13 b14 n14 c14 b16 n16 c16 b17 n17 c17 b18 n18 c18 b27 n27 c27 b28 n28 c28),30,true⟩:Box),⟨40,.lst (bcl from_ asn boot hops bound fresh seq rank parent first next full nver size dig start pages version page seed has d11 n11 e11 d12 n12 e12 d13 n13 e13 d14 n14 e14 d16 n16 e16 d17 n17 e17 d18 n18 e18 d27 n27 e27 d28 n28 e28),30,true⟩],E:=E:St })
 delta WI NI VS no2 no8 no16 no32 bcl
 have hl:=h0.len
 refine condC (fun g=>?_) (fun g=>Lp_re [some 0,some 1] h (wkH mr_))
 have g:i<n12:=by simpa using g
 have w:IntKind.wrap .i64 ((i:Int)+1)=((i+1:Nat):Int):=by rw [wrap_i64 (by omega)];omega
 obtain ⟨x,hx⟩:∃ x,grants[i]? =some x:=⟨_,List.getElem?_eq_getElem (by omega)⟩
 obtain ⟨a0,a1,a2,a3,a4,e0,l0⟩:=rowK5 (T:=97) h0 rfl rfl hx
 obtain ⟨b0_,b1_,b2_,b3_,b4_,e1,l1⟩:=rowK5 (T:=97) h1 rfl rfl hx
 rw [e0] at e1;cases e1
 refine req_intro (by omega) ⟨SL.ne (RK_ok .i64 (by decide)) h0 g,a0,a1,a2,a3,a4,l0,req_intro (by omega) ⟨SL.ne (RK_ok .i64 (by decide)) h1 g,a0,a1,a2,a3,a4,l1,?_⟩⟩
 rw [w]
 simp only [beq_self_eq_true,Bool.and_self,Bool.and_true,cond_true]
 exact Lp_re [some 0,some 1] (ih g) (wkH mr_)
theorem lp33_1 {dig:Int} (h0:SL (RK .i64 5) E b12 n12 c12 grants) (h1:SL (RK .i64 5) E d12 n12 e12 grants) (hn:n12<=1000000) (h:Lp V1 8 Try.f33 [1,1,1,1,1,0,1,0] 0 (pubK E K) (sh33_2 from_ asn boot hops bound fresh seq rank parent first next full nver size dig start pages version page seed has b11 d11 n11 c11 e11 b12 d12 n12 c12 e12 b13 d13 n13 c13 e13 b14 d14 n14 c14 e14 b16 d16 n16 c16 e16 b17 d17 n17 c17 e17 b18 d18 n18 c18 e18 b27 d27 n27 c27 e27 b28 d28 n28 c28 e28 0 E)):Lp V1 8 Try.f33 [1,1,1,1,0,1,0] 0 (pubK E K) (sh33_1 from_ asn boot hops bound fresh seq rank parent first next full nver size dig start pages version page seed has b11 d11 n11 c11 e11 b12 d12 n12 c12 e12 b13 d13 n13 c13 e13 b14 d14 n14 c14 e14 b16 d16 n16 c16 e16 b17 d17 n17 c17 e17 b18 d18 n18 c18 e18 b27 d27 n27 c27 e27 b28 d28 n28 c28 e28 0 E):=
 Lp_ind okV1 (fun x:{i:Nat//i<=n12}=>sh33_1 from_ asn boot hops bound fresh seq rank parent first next full nver size dig start pages version page seed has b11 d11 n11 c11 e11 b12 d12 n12 c12 e12 b13 d13 n13 c13 e13 b14 d14 n14 c14 e14 b16 d16 n16 c16 e16 b17 d17 n17 c17 e17 b18 d18 n18 c18 e18 b27 d27 n27 c27 e27 b28 d28 n28 c28 e28 x.1 E) (fun x=>n12-x.1) (fun x ih=>rn33_1 h0 h1 hn x.2 h fun g=>ih ⟨x.1+1,g⟩ (by show n12-(_+1)<n12-_;omega)) ⟨0,Nat.zero_le _⟩
theorem rn33_2 {dig:Int} (h0:SL (RK .i64 3) E b13 n13 c13 asks) (h1:SL (RK .i64 3) E d13 n13 e13 asks) (hn:n13<=1000000) (hi:i<=n13) (h:Lp V1 8 Try.f33 [1,1,1,1,1,1,0,1,0] 0 (pubK E K) (sh33_3 from_ asn boot hops bound fresh seq rank parent first next full nver size dig start pages version page seed has b11 d11 n11 c11 e11 b12 d12 n12 c12 e12 b13 d13 n13 c13 e13 b14 d14 n14 c14 e14 b16 d16 n16 c16 e16 b17 d17 n17 c17 e17 b18 d18 n18 c18 e18 b27 d27 n27 c27 e27 b28 d28 n28 c28 e28 0 E))
  (ih:i<n13->Lp V1 8 Try.f33 [1,1,1,1,1,0,1,0] 0 (pubK E K) (sh33_2 from_ asn boot hops bound fresh seq rank parent first next full nver size dig start pages version page seed has b11 d11 n11 c11 e11 b12 d12 n12 c12 e12 b13 d13 n13 c13 e13 b14 d14 n14 c14 e14 b16 d16 n16 c16 e16 b17 d17 n17 c17 e17 b18 d18 n18 c18 e18 b27 d27 n27 c27 e27 b28 d28 n28 c28 e28 (i+1) E)):Rnd V1 8 Try.f33 [1,1,1,1,1,0,1,0] 0 (pubK E K) (sh33_2 from_ asn boot hops bound fresh seq rank parent first next full nver size dig start pages version page seed has b11 d11 n11 c11 e11 b12 d12 n12 c12 e12 b13 d13 n13 c13 e13 b14 d14 n14 c14 e14 b16 d16 n16 c16 e16 b17 d17 n17 c17 e17 b18 d18 n18 c18 e18 b27 d27 n27 c27 e27 b28 d28 n28 c28 e28 i E):=by
 refine sm_ (?_:bif decide ((NI i)<(NI n13)) then req (0<=(NI i)/\(NI i)<(NI n13)) ((∃ (cs:List Value),E (VS b13 n13 c13) cs/\(cs=[]->False))/\∃ (n:Int),∃ (n_1:Int),∃ (n_2:Int),LoadE V1.P E 99 (VS b13 n13 c13) (Int.toNat (NI i)*3) (SV.agg [I n,I n_1,I n_2])/\req (0<=(NI i)/\(NI i)<(NI n13)) ((∃ (cs:List Value),E (VS d13 n13 e13) cs/\(cs=[]->False))/\∃ (n_3:Int),∃ (n_4:Int),∃ (n_5:Int),LoadE V1.P E 99 (VS d13 n13 e13) (Int.toNat (NI i)*3) (SV.agg [I n_3,I n_4,I n_5])/\Lp V1 8 Try.f33 [1,1,1,1,1,0,1,0] 0 (pubK E K) { fr:=none::none::oc 0 0::oc 1 0::none::oB (bif true then n==n_3&&(n_1==n_4&&true)&&(n_2==n_5&&true) else false)::none::none::oI (WI ((NI i)+1))::no32 (no32 (no32 (no32 (no16 (no4 (no2 (none::[]))))))),bx:=[(⟨40,.lst (bcl from_ asn boot hops bound fresh seq rank parent first next full nver size dig start pages version page seed has b11 n11 c11 b12 n12 c12 b13 n13 c13 b14 n14 c14 b16 n16 c16 b17 n17 c17 b18 n18 c18 b27 n27 c27 b28 n28 c28),30,true⟩:Box),⟨40,.lst (bcl from_ asn boot hops bound fresh seq rank parent first next full nver size dig start pages version page seed has d11 n11 e11 d12 n12 e12 d13 n13 e13 d14 n14 e14 d16 n16 e16 d17 n17 e17 d18 n18 e18 d27 n27 e27 d28 n28 e28),30,true⟩],E:=E:St })) else Lp V1 8 Try.f33 [1,1,1,1,1,1,0,1,0] 0 (pubK E K) { fr:=none::none::oc 0 0::oc 1 0::none::oB true::none::none::oI (NI i)::oI 0::no32 (no32 (no16 (no4 (no2 (oI (NI i)::oc 0 13::oL b13 n13 c13::oI (NI n13)::oB (decide ((NI i)<(NI n13)))::no32 (no16 (no8 (no2 (none::[]))))))))),bx:=[(⟨40,.lst (bcl from_ asn boot hops bound fresh seq rank parent first next full nver size dig start pages version page seed has b11 n11 c11 b12 n12 c12 b13 n13 c13 b14 n14 c14 b16 n16 c16 b17 n17 c17 b18 n18 c18 b27 n27 c27 b28 n28 c28),30,true⟩:Box),⟨40,.lst (bcl from_ asn boot hops bound fresh seq rank parent first next full nver size dig start pages version page seed has d11 n11 e11 d12 n12 e12 d13 n13 e13 d14 n14 e14 d16 n16 e16 d17 n17 e17 d18 n18 e18 d27 n27 e27 d28 n28 e28),30,true⟩],E:=E:St })
 delta WI NI VS no2 no4 no8 no16 no32 bcl
 have hl:=h0.len
 refine condC (fun g=>?_) (fun g=>Lp_re [some 0,some 1] h (wkH mr_))
 have g:i<n13:=by simpa using g
 have w:IntKind.wrap .i64 ((i:Int)+1)=((i+1:Nat):Int):=by rw [wrap_i64 (by omega)];omega
 obtain ⟨x,hx⟩:∃ x,asks[i]? =some x:=⟨_,List.getElem?_eq_getElem (by omega)⟩
 obtain ⟨a0,a1,a2,e0,l0⟩:=rowK3 (T:=99) h0 rfl rfl hx
 obtain ⟨b0_,b1_,b2_,e1,l1⟩:=rowK3 (T:=99) h1 rfl rfl hx
 rw [e0] at e1;cases e1
 refine req_intro (by omega) ⟨SL.ne (RK_ok .i64 (by decide)) h0 g,a0,a1,a2,l0,req_intro (by omega) ⟨SL.ne (RK_ok .i64 (by decide)) h1 g,a0,a1,a2,l1,?_⟩⟩
 rw [w]
 simp only [beq_self_eq_true,Bool.and_self,Bool.and_true,cond_true]
 exact Lp_re [some 0,some 1] (ih g) (wkH mr_)
theorem lp33_2 {dig:Int} (h0:SL (RK .i64 3) E b13 n13 c13 asks) (h1:SL (RK .i64 3) E d13 n13 e13 asks) (hn:n13<=1000000) (h:Lp V1 8 Try.f33 [1,1,1,1,1,1,0,1,0] 0 (pubK E K) (sh33_3 from_ asn boot hops bound fresh seq rank parent first next full nver size dig start pages version page seed has b11 d11 n11 c11 e11 b12 d12 n12 c12 e12 b13 d13 n13 c13 e13 b14 d14 n14 c14 e14 b16 d16 n16 c16 e16 b17 d17 n17 c17 e17 b18 d18 n18 c18 e18 b27 d27 n27 c27 e27 b28 d28 n28 c28 e28 0 E)):Lp V1 8 Try.f33 [1,1,1,1,1,0,1,0] 0 (pubK E K) (sh33_2 from_ asn boot hops bound fresh seq rank parent first next full nver size dig start pages version page seed has b11 d11 n11 c11 e11 b12 d12 n12 c12 e12 b13 d13 n13 c13 e13 b14 d14 n14 c14 e14 b16 d16 n16 c16 e16 b17 d17 n17 c17 e17 b18 d18 n18 c18 e18 b27 d27 n27 c27 e27 b28 d28 n28 c28 e28 0 E):=
 Lp_ind okV1 (fun x:{i:Nat//i<=n13}=>sh33_2 from_ asn boot hops bound fresh seq rank parent first next full nver size dig start pages version page seed has b11 d11 n11 c11 e11 b12 d12 n12 c12 e12 b13 d13 n13 c13 e13 b14 d14 n14 c14 e14 b16 d16 n16 c16 e16 b17 d17 n17 c17 e17 b18 d18 n18 c18 e18 b27 d27 n27 c27 e27 b28 d28 n28 c28 e28 x.1 E) (fun x=>n13-x.1) (fun x ih=>rn33_2 h0 h1 hn x.2 h fun g=>ih ⟨x.1+1,g⟩ (by show n13-(_+1)<n13-_;omega)) ⟨0,Nat.zero_le _⟩
theorem rn33_3 {dig:Int} (h0:SL (RK .i64 4) E b14 n14 c14 below) (h1:SL (RK .i64 4) E d14 n14 e14 below) (hn:n14<=1000000) (hi:i<=n14) (h:Lp V1 8 Try.f33 [1,1,1,1,1,1,1,0,1,0] 0 (pubK E K) (sh33_4 from_ asn boot hops bound fresh seq rank parent first next full nver size dig start pages version page seed has b11 d11 n11 c11 e11 b12 d12 n12 c12 e12 b13 d13 n13 c13 e13 b14 d14 n14 c14 e14 b16 d16 n16 c16 e16 b17 d17 n17 c17 e17 b18 d18 n18 c18 e18 b27 d27 n27 c27 e27 b28 d28 n28 c28 e28 0 E))
  (ih:i<n14->Lp V1 8 Try.f33 [1,1,1,1,1,1,0,1,0] 0 (pubK E K) (sh33_3 from_ asn boot hops bound fresh seq rank parent first next full nver size dig start pages version page seed has b11 d11 n11 c11 e11 b12 d12 n12 c12 e12 b13 d13 n13 c13 e13 b14 d14 n14 c14 e14 b16 d16 n16 c16 e16 b17 d17 n17 c17 e17 b18 d18 n18 c18 e18 b27 d27 n27 c27 e27 b28 d28 n28 c28 e28 (i+1) E)):Rnd V1 8 Try.f33 [1,1,1,1,1,1,0,1,0] 0 (pubK E K) (sh33_3 from_ asn boot hops bound fresh seq rank parent first next full nver size dig start pages version page seed has b11 d11 n11 c11 e11 b12 d12 n12 c12 e12 b13 d13 n13 c13 e13 b14 d14 n14 c14 e14 b16 d16 n16 c16 e16 b17 d17 n17 c17 e17 b18 d18 n18 c18 e18 b27 d27 n27 c27 e27 b28 d28 n28 c28 e28 i E):=by
 refine sm_ (?_:bif decide ((NI i)<(NI n14)) then req (0<=(NI i)/\(NI i)<(NI n14)) ((∃ (cs:List Value),E (VS b14 n14 c14) cs/\(cs=[]->False))/\∃ (n:Int),∃ (n_1:Int),∃ (n_2:Int),∃ (n_3:Int),LoadE V1.P E 101 (VS b14 n14 c14) (Int.toNat (NI i)*4) (SV.agg [I n,I n_1,I n_2,I n_3])/\req (0<=(NI i)/\(NI i)<(NI n14)) ((∃ (cs:List Value),E (VS d14 n14 e14) cs/\(cs=[]->False))/\∃ (n_4:Int),∃ (n_5:Int),∃ (n_6:Int),∃ (n_7:Int),LoadE V1.P E 101 (VS d14 n14 e14) (Int.toNat (NI i)*4) (SV.agg [I n_4,I n_5,I n_6,I n_7])/\Lp V1 8 Try.f33 [1,1,1,1,1,1,0,1,0] 0 (pubK E K) { fr:=none::none::oc 0 0::oc 1 0::none::oB (bif true then n==n_4&&(n_1==n_5&&(n_2==n_6&&(n_3==n_7&&true))) else false)::none::none::none::oI (WI ((NI i)+1))::no32 (no32 (no32 (no32 (no16 (no4 (no2 [])))))),bx:=[(⟨40,.lst (bcl from_ asn boot hops bound fresh seq rank parent first next full nver size dig start pages version page seed has b11 n11 c11 b12 n12 c12 b13 n13 c13 b14 n14 c14 b16 n16 c16 b17 n17 c17 b18 n18 c18 b27 n27 c27 b28 n28 c28),30,true⟩:Box),⟨40,.lst (bcl from_ asn boot hops bound fresh seq rank parent first next full nver size dig start pages version page seed has d11 n11 e11 d12 n12 e12 d13 n13 e13 d14 n14 e14 d16 n16 e16 d17 n17 e17 d18 n18 e18 d27 n27 e27 d28 n28 e28),30,true⟩],E:=E:St })) else Lp V1 8 Try.f33 [1,1,1,1,1,1,1,0,1,0] 0 (pubK E K) { fr:=none::none::oc 0 0::oc 1 0::none::oB true::none::none::none::oI (NI i)::oI 0::no32 (no32 (no32 (no8 (no2 (oI (NI i)::oc 0 14::oL b14 n14 c14::oI (NI n14)::oB (decide ((NI i)<(NI n14)))::no32 (no4 (no2 []))))))),bx:=[(⟨40,.lst (bcl from_ asn boot hops bound fresh seq rank parent first next full nver size dig start pages version page seed has b11 n11 c11 b12 n12 c12 b13 n13 c13 b14 n14 c14 b16 n16 c16 b17 n17 c17 b18 n18 c18 b27 n27 c27 b28 n28 c28),30,true⟩:Box),⟨40,.lst (bcl from_ asn boot hops bound fresh seq rank parent first next full nver size dig start pages version page seed has d11 n11 e11 d12 n12 e12 d13 n13 e13 d14 n14 e14 d16 n16 e16 d17 n17 e17 d18 n18 e18 d27 n27 e27 d28 n28 e28),30,true⟩],E:=E:St })
 delta WI NI VS no2 no4 no8 no16 no32 bcl
 have hl:=h0.len
 refine condC (fun g=>?_) (fun g=>Lp_re [some 0,some 1] h (wkH mr_))
 have g:i<n14:=by simpa using g
 have w:IntKind.wrap .i64 ((i:Int)+1)=((i+1:Nat):Int):=by rw [wrap_i64 (by omega)];omega
 obtain ⟨x,hx⟩:∃ x,below[i]? =some x:=⟨_,List.getElem?_eq_getElem (by omega)⟩
 obtain ⟨a0,a1,a2,a3,e0,l0⟩:=rowK4 (T:=101) h0 rfl rfl hx
 obtain ⟨b0_,b1_,b2_,b3_,e1,l1⟩:=rowK4 (T:=101) h1 rfl rfl hx
 rw [e0] at e1;cases e1
 refine req_intro (by omega) ⟨SL.ne (RK_ok .i64 (by decide)) h0 g,a0,a1,a2,a3,l0,req_intro (by omega) ⟨SL.ne (RK_ok .i64 (by decide)) h1 g,a0,a1,a2,a3,l1,?_⟩⟩
 rw [w]
 simp only [beq_self_eq_true,Bool.and_self,Bool.and_true,cond_true]
 exact Lp_re [some 0,some 1] (ih g) (wkH mr_)
theorem lp33_3 {dig:Int} (h0:SL (RK .i64 4) E b14 n14 c14 below) (h1:SL (RK .i64 4) E d14 n14 e14 below) (hn:n14<=1000000) (h:Lp V1 8 Try.f33 [1,1,1,1,1,1,1,0,1,0] 0 (pubK E K) (sh33_4 from_ asn boot hops bound fresh seq rank parent first next full nver size dig start pages version page seed has b11 d11 n11 c11 e11 b12 d12 n12 c12 e12 b13 d13 n13 c13 e13 b14 d14 n14 c14 e14 b16 d16 n16 c16 e16 b17 d17 n17 c17 e17 b18 d18 n18 c18 e18 b27 d27 n27 c27 e27 b28 d28 n28 c28 e28 0 E)):Lp V1 8 Try.f33 [1,1,1,1,1,1,0,1,0] 0 (pubK E K) (sh33_3 from_ asn boot hops bound fresh seq rank parent first next full nver size dig start pages version page seed has b11 d11 n11 c11 e11 b12 d12 n12 c12 e12 b13 d13 n13 c13 e13 b14 d14 n14 c14 e14 b16 d16 n16 c16 e16 b17 d17 n17 c17 e17 b18 d18 n18 c18 e18 b27 d27 n27 c27 e27 b28 d28 n28 c28 e28 0 E):=
 Lp_ind okV1 (fun x:{i:Nat//i<=n14}=>sh33_3 from_ asn boot hops bound fresh seq rank parent first next full nver size dig start pages version page seed has b11 d11 n11 c11 e11 b12 d12 n12 c12 e12 b13 d13 n13 c13 e13 b14 d14 n14 c14 e14 b16 d16 n16 c16 e16 b17 d17 n17 c17 e17 b18 d18 n18 c18 e18 b27 d27 n27 c27 e27 b28 d28 n28 c28 e28 x.1 E) (fun x=>n14-x.1) (fun x ih=>rn33_3 h0 h1 hn x.2 h fun g=>ih ⟨x.1+1,g⟩ (by show n14-(_+1)<n14-_;omega)) ⟨0,Nat.zero_le _⟩
theorem rn33_4 {dig:Int} (h0:SL (RK .i64 1) E b18 n18 c18 got) (h1:SL (RK .i64 1) E d18 n18 e18 got) (hn:n18<=1000000) (hi:i<=n18) (h:K (B true) E)
  (ih:i<n18->Lp V1 8 Try.f33 [1,1,1,1,1,1,1,0,1,0] 0 (pubK E K) (sh33_4 from_ asn boot hops bound fresh seq rank parent first next full nver size dig start pages version page seed has b11 d11 n11 c11 e11 b12 d12 n12 c12 e12 b13 d13 n13 c13 e13 b14 d14 n14 c14 e14 b16 d16 n16 c16 e16 b17 d17 n17 c17 e17 b18 d18 n18 c18 e18 b27 d27 n27 c27 e27 b28 d28 n28 c28 e28 (i+1) E)):Rnd V1 8 Try.f33 [1,1,1,1,1,1,1,0,1,0] 0 (pubK E K) (sh33_4 from_ asn boot hops bound fresh seq rank parent first next full nver size dig start pages version page seed has b11 d11 n11 c11 e11 b12 d12 n12 c12 e12 b13 d13 n13 c13 e13 b14 d14 n14 c14 e14 b16 d16 n16 c16 e16 b17 d17 n17 c17 e17 b18 d18 n18 c18 e18 b27 d27 n27 c27 e27 b28 d28 n28 c28 e28 i E):=by
 refine sm_ (?_:bif decide ((NI i)<(NI n18)) then req (0<=(NI i)/\(NI i)<(NI n18)) ((∃ (cs:List Value),E (VS b18 n18 c18) cs/\(cs=[]->False))/\∃ (n:Int),LoadE V1.P E 3 (VS b18 n18 c18) (Int.toNat (NI i)*1) (I n)/\req (0<=(NI i)/\(NI i)<(NI n18)) ((∃ (cs:List Value),E (VS d18 n18 e18) cs/\(cs=[]->False))/\∃ (n_1:Int),LoadE V1.P E 3 (VS d18 n18 e18) (Int.toNat (NI i)*1) (I n_1)/\Lp V1 8 Try.f33 [1,1,1,1,1,1,1,0,1,0] 0 (pubK E K) { fr:=none::none::oc 0 0::oc 1 0::none::oB (bif true then n==n_1 else false)::none::none::none::none::oI (WI ((NI i)+1))::no32 (no32 (no32 (no32 (no16 (no4 (none::[])))))),bx:=[(⟨40,.lst (bcl from_ asn boot hops bound fresh seq rank parent first next full nver size dig start pages version page seed has b11 n11 c11 b12 n12 c12 b13 n13 c13 b14 n14 c14 b16 n16 c16 b17 n17 c17 b18 n18 c18 b27 n27 c27 b28 n28 c28),30,true⟩:Box),⟨40,.lst (bcl from_ asn boot hops bound fresh seq rank parent first next full nver size dig start pages version page seed has d11 n11 e11 d12 n12 e12 d13 n13 e13 d14 n14 e14 d16 n16 e16 d17 n17 e17 d18 n18 e18 d27 n27 e27 d28 n28 e28),30,true⟩],E:=E:St })) else Mem.le E E/\K (B true) E)
 delta WI NI VS no4 no16 no32 bcl
 have hl:=h0.len
 refine condC (fun g=>?_) (fun g=>⟨mr_,h⟩)
 have g:i<n18:=by simpa using g
 have w:IntKind.wrap .i64 ((i:Int)+1)=((i+1:Nat):Int):=by rw [wrap_i64 (by omega)];omega
 obtain ⟨x,hx⟩:∃ x,got[i]? =some x:=⟨_,List.getElem?_eq_getElem (by omega)⟩
 have l0:=RK_load (by decide) (T:=3) rfl h0 hx 0 (by decide)
 have l1:=RK_load (by decide) (T:=3) rfl h1 hx 0 (by decide)
 refine req_intro (by omega) ⟨SL.ne (RK_ok .i64 (by decide)) h0 g,x.getD 0 0,l0,req_intro (by omega) ⟨SL.ne (RK_ok .i64 (by decide)) h1 g,x.getD 0 0,l1,?_⟩⟩
 rw [w]
 simp only [beq_self_eq_true,Bool.and_self,Bool.and_true,cond_true]
 exact Lp_re [some 0,some 1] (ih g) (wkH mr_)
theorem lp33_4 {dig:Int} (h0:SL (RK .i64 1) E b18 n18 c18 got) (h1:SL (RK .i64 1) E d18 n18 e18 got) (hn:n18<=1000000) (h:K (B true) E):Lp V1 8 Try.f33 [1,1,1,1,1,1,1,0,1,0] 0 (pubK E K) (sh33_4 from_ asn boot hops bound fresh seq rank parent first next full nver size dig start pages version page seed has b11 d11 n11 c11 e11 b12 d12 n12 c12 e12 b13 d13 n13 c13 e13 b14 d14 n14 c14 e14 b16 d16 n16 c16 e16 b17 d17 n17 c17 e17 b18 d18 n18 c18 e18 b27 d27 n27 c27 e27 b28 d28 n28 c28 e28 0 E):=
 Lp_ind okV1 (fun x:{i:Nat//i<=n18}=>sh33_4 from_ asn boot hops bound fresh seq rank parent first next full nver size dig start pages version page seed has b11 d11 n11 c11 e11 b12 d12 n12 c12 e12 b13 d13 n13 c13 e13 b14 d14 n14 c14 e14 b16 d16 n16 c16 e16 b17 d17 n17 c17 e17 b18 d18 n18 c18 e18 b27 d27 n27 c27 e27 b28 d28 n28 c28 e28 x.1 E) (fun x=>n18-x.1) (fun x ih=>rn33_4 h0 h1 hn x.2 h fun g=>ih ⟨x.1+1,g⟩ (by show n18-(_+1)<n18-_;omega)) ⟨0,Nat.zero_le _⟩
theorem ss33 {dig:Int} (h11:SL (RK .i64 4) E b11 n11 c11 uses) (h12:SL (RK .i64 5) E b12 n12 c12 grants) (h13:SL (RK .i64 3) E b13 n13 c13 asks) (h14:SL (RK .i64 4) E b14 n14 c14 below) (h16:SL (RK .i64 8) E b16 n16 c16 words) (h17:SL (RK .i64 8) E b17 n17 c17 mail) (h18:SL (RK .i64 1) E b18 n18 c18 got) (h27:Bs E b27 n27 c27 data) (h28:SL (RK .u64 1) E b28 n28 c28 proof) (k11:SL (RK .i64 4) E d11 n11 e11 uses) (k12:SL (RK .i64 5) E d12 n12 e12 grants) (k13:SL (RK .i64 3) E d13 n13 e13 asks) (k14:SL (RK .i64 4) E d14 n14 e14 below) (k16:SL (RK .i64 8) E d16 n16 e16 words) (k17:SL (RK .i64 8) E d17 n17 e17 mail) (k18:SL (RK .i64 1) E d18 n18 e18 got) (k27:Bs E d27 n27 e27 data) (k28:SL (RK .u64 1) E d28 n28 e28 proof) (hs:n11<=1000000/\n12<=1000000/\n13<=1000000/\n14<=1000000/\n18<=1000000) (h:K (B true) E):
  Ent V1 8 Try.f33 [.agg [I from_,I asn,I boot,I hops,I bound,I fresh,I seq,I rank,I parent,I first,I next,L b11 n11 c11,L b12 n12 c12,L b13 n13 c13,L b14 n14 c14,B full,L b16 n16 c16,L b17 n17 c17,L b18 n18 c18,I nver,I size,.raw (.int .u64 dig),I start,I pages,I version,I page,I seed,L b27 n27 c27,L b28 n28 c28,B has],.agg [I from_,I asn,I boot,I hops,I bound,I fresh,I seq,I rank,I parent,I first,I next,L d11 n11 e11,L d12 n12 e12,L d13 n13 e13,L d14 n14 e14,B full,L d16 n16 e16,L d17 n17 e17,L d18 n18 e18,I nver,I size,.raw (.int .u64 dig),I start,I pages,I version,I page,I seed,L d27 n27 e27,L d28 n28 e28,B has]] E K:=by
 refine sm_ (?_:bif (NI n11) !=(NI n11) then Mem.le E E/\K (B false) E else bif bif false then true else (NI n12) !=(NI n12) then Mem.le E E/\K (B false) E else bif bif false then true else (NI n13) !=(NI n13) then Mem.le E E/\K (B false) E else bif bif false then true else (NI n14) !=(NI n14) then Mem.le E E/\K (B false) E else bif bif false then true else (NI n18) !=(NI n18) then Mem.le E E/\K (B false) E else Lp V1 8 Try.f33 [1,1,1,0,1,0] 0 (pubK E K) { fr:=some (SV.agg (bcl from_ asn boot hops bound fresh seq rank parent first next full nver size dig start pages version page seed has b11 n11 c11 b12 n12 c12 b13 n13 c13 b14 n14 c14 b16 n16 c16 b17 n17 c17 b18 n18 c18 b27 n27 c27 b28 n28 c28))::some (SV.agg (bcl from_ asn boot hops bound fresh seq rank parent first next full nver size dig start pages version page seed has d11 n11 e11 d12 n12 e12 d13 n13 e13 d14 n14 e14 d16 n16 e16 d17 n17 e17 d18 n18 e18 d27 n27 e27 d28 n28 e28))::oc 0 0::oc 1 0::oB false::oB true::oI 0::none::none::none::none::oc 0 11::oL b11 n11 c11::oI (NI n11)::oc 1 11::oL d11 n11 e11::oI (NI n11)::oB ((NI n11) !=(NI n11))::oB false::oc 0 12::oL b12 n12 c12::oI (NI n12)::oc 1 12::oL d12 n12 e12::oI (NI n12)::oB ((NI n12) !=(NI n12))::oB (bif false then true else (NI n12) !=(NI n12))::oB false::oc 0 13::oL b13 n13 c13::oI (NI n13)::oc 1 13::oL d13 n13 e13::oI (NI n13)::oB ((NI n13) !=(NI n13))::oB (bif false then true else (NI n13) !=(NI n13))::oB false::oc 0 14::oL b14 n14 c14::oI (NI n14)::oc 1 14::oL d14 n14 e14::oI (NI n14)::oB ((NI n14) !=(NI n14))::oB (bif false then true else (NI n14) !=(NI n14))::oB false::oc 0 18::oL b18 n18 c18::oI (NI n18)::oc 1 18::oL d18 n18 e18::oI (NI n18)::oB ((NI n18) !=(NI n18))::oB (bif false then true else (NI n18) !=(NI n18))::no32 (no32 (no32 (no8 (no2 [])))),bx:=[(⟨40,.lst (bcl from_ asn boot hops bound fresh seq rank parent first next full nver size dig start pages version page seed has b11 n11 c11 b12 n12 c12 b13 n13 c13 b14 n14 c14 b16 n16 c16 b17 n17 c17 b18 n18 c18 b27 n27 c27 b28 n28 c28),30,true⟩:Box),⟨40,.lst (bcl from_ asn boot hops bound fresh seq rank parent first next full nver size dig start pages version page seed has d11 n11 e11 d12 n12 e12 d13 n13 e13 d14 n14 e14 d16 n16 e16 d17 n17 e17 d18 n18 e18 d27 n27 e27 d28 n28 e28),30,true⟩],E:=E:St })
 delta NI no2 no8 no32 bcl
 obtain ⟨s11,s12,s13,s14,s18⟩:=hs
 refine condC (fun q=>absurd q (by simp)) (fun _=>condC (fun q=>absurd q (by simp)) (fun _=>condC (fun q=>absurd q (by simp)) (fun _=>condC (fun q=>absurd q (by simp)) (fun _=>condC (fun q=>absurd q (by simp)) (fun _=>?_)))))
 exact Lp_re [some 0,some 1] (lp33_0 h11 k11 s11 (lp33_1 h12 k12 s12 (lp33_2 h13 k13 s13 (lp33_3 h14 k14 s14 (lp33_4 h18 k18 s18 h))))) (wkH mr_)
structure BcV (E:Mem) (v:SV) (x:Bc):Prop where
 ex:∃ b11 n11 c11 b12 n12 c12 b13 n13 c13 b14 n14 c14 b16 n16 c16 b17 n17 c17 b18 n18 c18 b27 n27 c27 b28 n28 c28,v= .agg [I x.from_,I x.asn,I x.boot,I x.hops,I x.bound,I x.fresh,I x.seq,I x.rank,I x.parent,I x.first,I x.next,L b11 n11 c11,L b12 n12 c12,L b13 n13 c13,L b14 n14 c14,B x.full,L b16 n16 c16,L b17 n17 c17,L b18 n18 c18,I x.nver,I x.size,.raw (.int .u64 x.dig),I x.start,I x.pages,I x.version,I x.page,I x.seed,L b27 n27 c27,L b28 n28 c28,B x.has]/\BcM E x b11 n11 c11 b12 n12 c12 b13 n13 c13 b14 n14 c14 b16 n16 c16 b17 n17 c17 b18 n18 c18 b27 n27 c27 b28 n28 c28
structure BcSm (x:Bc):Prop where
 l11:x.uses.length<=100000
 l12:x.grants.length<=100000
 l13:x.asks.length<=100000
 l14:x.below.length<=100000
 l16:x.words.length<=100000
 l17:x.mail.length<=100000
 l18:x.got.length<=100000
 l27:x.data.length<=100000
 l28:x.proof.length<=100000
theorem BcM.mono {E E':Mem} {x:Bc} (h:BcM E x b11 n11 c11 b12 n12 c12 b13 n13 c13 b14 n14 c14 b16 n16 c16 b17 n17 c17 b18 n18 c18 b27 n27 c27 b28 n28 c28) (he:Mem.le E E'):BcM E' x b11 n11 c11 b12 n12 c12 b13 n13 c13 b14 n14 c14 b16 n16 c16 b17 n17 c17 b18 n18 c18 b27 n27 c27 b28 n28 c28:=
 ⟨h.h11.mono (RK_ok .i64 (by decide)) he,h.h12.mono (RK_ok .i64 (by decide)) he,h.h13.mono (RK_ok .i64 (by decide)) he,h.h14.mono (RK_ok .i64 (by decide)) he,h.h16.mono (RK_ok .i64 (by decide)) he,h.h17.mono (RK_ok .i64 (by decide)) he,h.h18.mono (RK_ok .i64 (by decide)) he,h.h27.mono he,h.h28.mono (RK_ok .u64 (by decide)) he⟩
structure BkV (E:Mem) (v:SV) (page seed:Int) (data:List Int) (proof:List (List Int)):Prop where
 ex:∃ (b:Option Addr) (n c:Nat) (d:Option Addr) (m e:Nat),v= .agg [I page,I seed,L b n c,L d m e]/\Bs E b n c data/\SL (RK .u64 1) E d m e proof
noncomputable def tabS1:FuncId->List SV->Mem->(SV->Mem->Prop)->Prop:=fun f args E K=>match f with
 | 15=>d2 args fun x0 x1=>dS x0 fun b n c=>dS x1 fun d m e=>∃ zs,(Bs E b n c zs/\Bs E d m e zs/\n<=1000000)/\K (B true) E
 | _=>False
theorem tabS1_ok:TabOK Try.prog tabS1:=by
 intro f args E K h
 unfold tabS1 at h
 split at h
 ·obtain ⟨x0,x1,rfl,h1⟩:=d2_elim h
  obtain ⟨b,n,c,rfl,h2⟩:=dS_elim h1
  obtain ⟨d,m,e,rfl,zs,⟨hB,hD,hn⟩,hk⟩:=dS_elim h2
  have e1:=hB.2.1
  have e2:=hD.2.1
  obtain rfl:n=m:=by omega
  exact esm okV0 Try.func15 rfl (ss15 hB hD hn hk)
 ·exact h.elim
noncomputable def V2:Cx:={ P:=Try.prog,inl:=fun f=>List.contains [] f,tab:=tabS1,isB:=fun _=>false,tabB:=fun _ _ _ _ _=>False,opt:={ unroll:=0,carry:=[6] },muts:=mutsD }
theorem okV2:CxOK V2:=CxOK.four tabS1_ok (by kernel_rfl) (okInl (by kernel_rfl)) (fun _ _ _ _ _ h=>h.elim)
def sh35 (page seed:Int) (b d b' d':Option Addr) (n c n' c' m e e':Nat) (i:Nat) (E:Mem):St:=⟨[none,none,oc 0 0,oc 1 0,none,none,oI (i:Nat)]++List.replicate 48 none,[⟨38,.lst [I page,I seed,L b n c,L d m e],4,true⟩,⟨38,.lst [I page,I seed,L b' n' c',L d' m e'],4,true⟩],E⟩
theorem rn35 {b' d':Option Addr} {n' c' e':Nat} {xs:List (List Int)} (h0:SL (RK .u64 1) E d m e xs) (h1:SL (RK .u64 1) E d' m e' xs) (hn:m<=1000000) (hi:i<=m) (h:K (B true) E)
  (ih:i<m->Lp V2 8 Try.f35 [1,1,1,0,1,0] 0 (pubK E K) (sh35 page seed b d b' d' n c n' c' m e e' (i+1) E)):Rnd V2 8 Try.f35 [1,1,1,0,1,0] 0 (pubK E K) (sh35 page seed b d b' d' n c n' c' m e e' i E):=by
 refine sm_ (?_:bif decide ((NI i)<(NI m)) then req (0<=(NI i)/\(NI i)<(NI m)) ((∃ (cs:List Value),E (VS d m e) cs/\(cs=[]->False))/\∃ (n_1:Int),LoadE V2.P E 32 (VS d m e) (Int.toNat (NI i)*1) (SV.raw (Value.int IntKind.u64 n_1))/\req (0<=(NI i)/\(NI i)<(NI m)) ((∃ (cs:List Value),E (VS d' m e') cs/\(cs=[]->False))/\∃ (n_2:Int),LoadE V2.P E 32 (VS d' m e') (Int.toNat (NI i)*1) (SV.raw (Value.int IntKind.u64 n_2))/\bif n_1 !=n_2 then Mem.le E E/\K (B false) E else Lp V2 8 Try.f35 [1,1,1,0,1,0] 0 (pubK E K) { fr:=none::none::oc 0 0::oc 1 0::none::none::oI (WI ((NI i)+1))::no32 (no16 []),bx:=[(⟨38,.lst [I page,I seed,L b n c,L d m e],4,true⟩:Box),⟨38,.lst [I page,I seed,L b' n' c',L d' m e'],4,true⟩],E:=E:St })) else Mem.le E E/\K (B true) E)
 delta WI NI VS no16 no32
 have hl:=h0.len
 refine condC (fun g=>?_) (fun g=>⟨mr_,h⟩)
 have g:i<m:=by simpa using g
 have w:IntKind.wrap .i64 ((i:Int)+1)=((i+1:Nat):Int):=by rw [wrap_i64 (by omega)];omega
 obtain ⟨x,hx⟩:∃ x,xs[i]? =some x:=⟨_,List.getElem?_eq_getElem (by omega)⟩
 have l0:=RK_load (by decide) (T:=32) rfl h0 hx 0 (by decide)
 have l1:=RK_load (by decide) (T:=32) rfl h1 hx 0 (by decide)
 refine req_intro (by omega) ⟨SL.ne (RK_ok .u64 (by decide)) h0 g,x.getD 0 0,l0,req_intro (by omega) ⟨SL.ne (RK_ok .u64 (by decide)) h1 g,x.getD 0 0,l1,condC (fun q=>absurd q (by simp)) (fun _=>?_)⟩⟩
 rw [w];exact Lp_re [some 0,some 1] (ih g) (wkH mr_)
theorem ss35 {b' d':Option Addr} {n' c' e':Nat} {xs:List (List Int)} (hB:Bs E b n c data) (hB':Bs E b' n' c' data) (h0:SL (RK .u64 1) E d m e xs) (h1:SL (RK .u64 1) E d' m e' xs) (hl:n<=1000000) (hn:m<=1000000) (h:K (B true) E):
  Ent V2 8 Try.f35 [.agg [I page,I seed,L b n c,L d m e],.agg [I page,I seed,L b' n' c',L d' m e']] E K:=by
 refine sm_ (?_:∃ (zs:List Int),(Bs E b n c zs/\Bs E b' n' c' zs/\n<=1000000)/\Mem.le E E/\bif bif false then true else page !=page then Mem.le E E/\K (B false) E else bif bif false then true else seed !=seed then Mem.le E E/\K (B false) E else bif bif false then true else (NI m) !=(NI m) then Mem.le E E/\K (B false) E else Lp V2 8 Try.f35 [1,1,1,0,1,0] 0 (pubK E K) { fr:=some (SV.agg [I page,I seed,L b n c,L d m e])::some (SV.agg [I page,I seed,L b' n' c',L d' m e'])::oc 0 0::oc 1 0::none::oB true::oI 0::oc 0 2::oL b n c::oc 1 2::oL b' n' c'::oB true::oB true::oB false::oB false::oc 0 0::oI page::oc 1 0::oI page::oB (page !=page)::oB (bif false then true else page !=page)::oB false::oc 0 1::oI seed::oc 1 1::oI seed::oB (seed !=seed)::oB (bif false then true else seed !=seed)::oB false::oc 0 3::oL d m e::oI (NI m)::oc 1 3::oL d' m e'::oI (NI m)::oB ((NI m) !=(NI m))::oB (bif false then true else (NI m) !=(NI m))::no16 (no2 []),bx:=[(⟨38,.lst [I page,I seed,L b n c,L d m e],4,true⟩:Box),⟨38,.lst [I page,I seed,L b' n' c',L d' m e'],4,true⟩],E:=E:St })
 delta NI no2 no16
 exact ⟨data,⟨hB,hB',hl⟩,mr_,condC (fun q=>absurd q (by simp)) (fun _=>condC (fun q=>absurd q (by simp)) (fun _=>condC (fun q=>absurd q (by simp)) (fun _=>Lp_re [some 0,some 1] (Lp_ind okV2 (fun x:{i:Nat//i<=m}=>sh35 page seed b d b' d' n c n' c' m e e' x.1 E) (fun x=>m-x.1) (fun x ih=>rn35 h0 h1 hn x.2 h fun g=>ih ⟨x.1+1,g⟩ (by show m-(_+1)<m-_;omega)) ⟨0,Nat.zero_le _⟩) (wkH mr_))))⟩
noncomputable def tabS2:FuncId->List SV->Mem->(SV->Mem->Prop)->Prop:=fun f args E K=>match f with
 | 33=>d2 args fun x0 x1=>∃ x:Bc,(BcV E x0 x/\BcV E x1 x/\BcSm x)/\K (B true) E
 | 34=>d2 args fun x0 x1=>dS x0 fun b n c=>dS x1 fun d m e=>∃ xs,(SL (RK .i64 8) E b n c xs/\SL (RK .i64 8) E d m e xs/\n<=1000000)/\K (B true) E
 | 35=>d2 args fun x0 x1=>∃ (page seed:Int) (data:List Int) (proof:List (List Int)),(BkV E x0 page seed data proof/\BkV E x1 page seed data proof/\data.length<=1000000/\proof.length<=1000000)/\K (B true) E
 | _=>False
theorem tabS2_ok:TabOK Try.prog tabS2:=by
 intro f args E K h
 unfold tabS2 at h
 split at h
 ·obtain ⟨x0,x1,rfl,x,⟨hx,hy,hs⟩,hk⟩:=d2_elim h
  obtain ⟨b11,n11,c11,b12,n12,c12,b13,n13,c13,b14,n14,c14,b16,n16,c16,b17,n17,c17,b18,n18,c18,b27,n27,c27,b28,n28,c28,rfl,M⟩:=hx.ex
  obtain ⟨d11,m11,e11,d12,m12,e12,d13,m13,e13,d14,m14,e14,d16,m16,e16,d17,m17,e17,d18,m18,e18,d27,m27,e27,d28,m28,e28,rfl,N⟩:=hy.ex
  have p11:=M.h11.len
  have r11:=N.h11.len
  have t11:=hs.l11
  obtain rfl:n11=m11:=by omega
  have p12:=M.h12.len
  have r12:=N.h12.len
  have t12:=hs.l12
  obtain rfl:n12=m12:=by omega
  have p13:=M.h13.len
  have r13:=N.h13.len
  have t13:=hs.l13
  obtain rfl:n13=m13:=by omega
  have p14:=M.h14.len
  have r14:=N.h14.len
  have t14:=hs.l14
  obtain rfl:n14=m14:=by omega
  have p16:=M.h16.len
  have r16:=N.h16.len
  have t16:=hs.l16
  obtain rfl:n16=m16:=by omega
  have p17:=M.h17.len
  have r17:=N.h17.len
  have t17:=hs.l17
  obtain rfl:n17=m17:=by omega
  have p18:=M.h18.len
  have r18:=N.h18.len
  have t18:=hs.l18
  obtain rfl:n18=m18:=by omega
  have p27:=M.h27.2.1
  have r27:=N.h27.2.1
  have t27:=hs.l27
  obtain rfl:n27=m27:=by omega
  have p28:=M.h28.len
  have r28:=N.h28.len
  have t28:=hs.l28
  obtain rfl:n28=m28:=by omega
  exact esm okV1 Try.func33 rfl (ss33 M.h11 M.h12 M.h13 M.h14 M.h16 M.h17 M.h18 M.h27 M.h28 N.h11 N.h12 N.h13 N.h14 N.h16 N.h17 N.h18 N.h27 N.h28 ⟨by omega,by omega,by omega,by omega,by omega⟩ hk)
 ·obtain ⟨x0,x1,rfl,h1⟩:=d2_elim h
  obtain ⟨b,n,c,rfl,h2⟩:=dS_elim h1
  obtain ⟨d,m,e,rfl,xs,⟨hB,hD,hn⟩,hk⟩:=dS_elim h2
  have e1:=hB.len
  have e2:=hD.len
  obtain rfl:n=m:=by omega
  exact esm okV0 Try.func34 rfl (ss34 hB hD hn hk)
 ·obtain ⟨x0,x1,rfl,page,seed,data,proof,⟨hx,hy,h3,h4⟩,hk⟩:=d2_elim h
  obtain ⟨b,n,c,d,m,e,rfl,hB,hS⟩:=hx.ex
  obtain ⟨b',n',c',d',m',e',rfl,hB',hS'⟩:=hy.ex
  have e1:=hB.2.1
  have e2:=hB'.2.1
  have e3:=hS.len
  have e4:=hS'.len
  obtain rfl:n=n':=by omega
  obtain rfl:m=m':=by omega
  exact esm okV2 Try.func35 rfl (ss35 hB hB' hS hS' (by omega) (by omega) hk)
 ·exact h.elim
noncomputable def V3:Cx:={ P:=Try.prog,inl:=fun f=>List.contains [] f,tab:=tabS2,isB:=fun _=>false,tabB:=fun _ _ _ _ _=>False,opt:={ unroll:=0,carry:=[],cuts:=[5,6,7] },muts:=mutsD }
theorem okV3:CxOK V3:=CxOK.four tabS2_ok (by kernel_rfl) (okInl (by kernel_rfl)) (fun _ _ _ _ _ h=>h.elim)
def sh14_5 (from_:Int) (asn:Int) (boot:Int) (hops:Int) (bound:Int) (fresh:Int) (seq:Int) (rank:Int) (parent:Int) (first:Int) (next:Int) (full:Bool) (nver:Int) (size:Int) (dig:Int) (start:Int) (pages:Int) (version:Int) (page:Int) (seed:Int) (has:Bool) (b11 d11:Option Addr) (n11 c11 e11:Nat) (b12 d12:Option Addr) (n12 c12 e12:Nat) (b13 d13:Option Addr) (n13 c13 e13:Nat) (b14 d14:Option Addr) (n14 c14 e14:Nat) (b16 d16:Option Addr) (n16 c16 e16:Nat) (b17 d17:Option Addr) (n17 c17 e17:Nat) (b18 d18:Option Addr) (n18 c18 e18:Nat) (b27 d27:Option Addr) (n27 c27 e27:Nat) (b28 d28:Option Addr) (n28 c28 e28:Nat) (E:Mem):St:=⟨[none,none,oc 0 0,oc 1 0,none,oB true,oB true,oB true,oB true]++List.replicate 130 none,[⟨40,.lst [I from_,I asn,I boot,I hops,I bound,I fresh,I seq,I rank,I parent,I first,I next,L b11 n11 c11,L b12 n12 c12,L b13 n13 c13,L b14 n14 c14,B full,L b16 n16 c16,L b17 n17 c17,L b18 n18 c18,I nver,I size,.raw (.int .u64 dig),I start,I pages,I version,I page,I seed,L b27 n27 c27,L b28 n28 c28,B has],30,true⟩,⟨40,.lst [I from_,I asn,I boot,I hops,I bound,I fresh,I seq,I rank,I parent,I first,I next,L d11 n11 e11,L d12 n12 e12,L d13 n13 e13,L d14 n14 e14,B full,L d16 n16 e16,L d17 n17 e17,L d18 n18 e18,I nver,I size,.raw (.int .u64 dig),I start,I pages,I version,I page,I seed,L d27 n27 e27,L d28 n28 e28,B has],30,true⟩],E⟩
def sh14_6 (from_:Int) (asn:Int) (boot:Int) (hops:Int) (bound:Int) (fresh:Int) (seq:Int) (rank:Int) (parent:Int) (first:Int) (next:Int) (full:Bool) (nver:Int) (size:Int) (dig:Int) (start:Int) (pages:Int) (version:Int) (page:Int) (seed:Int) (has:Bool) (b11 d11:Option Addr) (n11 c11 e11:Nat) (b12 d12:Option Addr) (n12 c12 e12:Nat) (b13 d13:Option Addr) (n13 c13 e13:Nat) (b14 d14:Option Addr) (n14 c14 e14:Nat) (b16 d16:Option Addr) (n16 c16 e16:Nat) (b17 d17:Option Addr) (n17 c17 e17:Nat) (b18 d18:Option Addr) (n18 c18 e18:Nat) (b27 d27:Option Addr) (n27 c27 e27:Nat) (b28 d28:Option Addr) (n28 c28 e28:Nat) (E:Mem):St:=⟨[none,none,oc 0 0,oc 1 0,none,oB true,oB true,oB true,oB true,oB true]++List.replicate 129 none,[⟨40,.lst [I from_,I asn,I boot,I hops,I bound,I fresh,I seq,I rank,I parent,I first,I next,L b11 n11 c11,L b12 n12 c12,L b13 n13 c13,L b14 n14 c14,B full,L b16 n16 c16,L b17 n17 c17,L b18 n18 c18,I nver,I size,.raw (.int .u64 dig),I start,I pages,I version,I page,I seed,L b27 n27 c27,L b28 n28 c28,B has],30,true⟩,⟨40,.lst [I from_,I asn,I boot,I hops,I bound,I fresh,I seq,I rank,I parent,I first,I next,L d11 n11 e11,L d12 n12 e12,L d13 n13 e13,L d14 n14 e14,B full,L d16 n16 e16,L d17 n17 e17,L d18 n18 e18,I nver,I size,.raw (.int .u64 dig),I start,I pages,I version,I page,I seed,L d27 n27 e27,L d28 n28 e28,B has],30,true⟩],E⟩
def sh14_7 (from_:Int) (asn:Int) (boot:Int) (hops:Int) (bound:Int) (fresh:Int) (seq:Int) (rank:Int) (parent:Int) (first:Int) (next:Int) (full:Bool) (nver:Int) (size:Int) (dig:Int) (start:Int) (pages:Int) (version:Int) (page:Int) (seed:Int) (has:Bool) (b11 d11:Option Addr) (n11 c11 e11:Nat) (b12 d12:Option Addr) (n12 c12 e12:Nat) (b13 d13:Option Addr) (n13 c13 e13:Nat) (b14 d14:Option Addr) (n14 c14 e14:Nat) (b16 d16:Option Addr) (n16 c16 e16:Nat) (b17 d17:Option Addr) (n17 c17 e17:Nat) (b18 d18:Option Addr) (n18 c18 e18:Nat) (b27 d27:Option Addr) (n27 c27 e27:Nat) (b28 d28:Option Addr) (n28 c28 e28:Nat) (E:Mem):St:=⟨[none,none,none,none,none,oB true,oB true,oB true,oB true,oB true,oB true]++List.replicate 128 none,[⟨40,.lst [I from_,I asn,I boot,I hops,I bound,I fresh,I seq,I rank,I parent,I first,I next,L b11 n11 c11,L b12 n12 c12,L b13 n13 c13,L b14 n14 c14,B full,L b16 n16 c16,L b17 n17 c17,L b18 n18 c18,I nver,I size,.raw (.int .u64 dig),I start,I pages,I version,I page,I seed,L b27 n27 c27,L b28 n28 c28,B has],30,true⟩,⟨40,.lst [I from_,I asn,I boot,I hops,I bound,I fresh,I seq,I rank,I parent,I first,I next,L d11 n11 e11,L d12 n12 e12,L d13 n13 e13,L d14 n14 e14,B full,L d16 n16 e16,L d17 n17 e17,L d18 n18 e18,I nver,I size,.raw (.int .u64 dig),I start,I pages,I version,I page,I seed,L d27 n27 e27,L d28 n28 e28,B has],30,true⟩],E⟩
theorem pc14_7 {dig:Int} (h:K (B true) E):Pc V3 8 Try.f14 [1,1,1,1,1,1,1] 0 (pubK E K) (sh14_7 from_ asn boot hops bound fresh seq rank parent first next full nver size dig start pages version page seed has b11 d11 n11 c11 e11 b12 d12 n12 c12 e12 b13 d13 n13 c13 e13 b14 d14 n14 c14 e14 b16 d16 n16 c16 e16 b17 d17 n17 c17 e17 b18 d18 n18 c18 e18 b27 d27 n27 c27 e27 b28 d28 n28 c28 e28 E):=by
 refine sm_ (?_:Mem.le E E/\K (B true) E)
 exact ⟨mr_,h⟩
theorem pc14_6 {dig:Int} (h:Pc V3 8 Try.f14 [1,1,1,1,1,1,1] 0 (pubK E K) (sh14_7 from_ asn boot hops bound fresh seq rank parent first next full nver size dig start pages version page seed has b11 d11 n11 c11 e11 b12 d12 n12 c12 e12 b13 d13 n13 c13 e13 b14 d14 n14 c14 e14 b16 d16 n16 c16 e16 b17 d17 n17 c17 e17 b18 d18 n18 c18 e18 b27 d27 n27 c27 e27 b28 d28 n28 c28 e28 E)):Pc V3 8 Try.f14 [1,1,1,1,1,1] 0 (pubK E K) (sh14_6 from_ asn boot hops bound fresh seq rank parent first next full nver size dig start pages version page seed has b11 d11 n11 c11 e11 b12 d12 n12 c12 e12 b13 d13 n13 c13 e13 b14 d14 n14 c14 e14 b16 d16 n16 c16 e16 b17 d17 n17 c17 e17 b18 d18 n18 c18 e18 b27 d27 n27 c27 e27 b28 d28 n28 c28 e28 E):=by
 refine sm_ (?_:bif first==first&&(next==next&&true) then bif bif true then full==full else false then bif bif true then nver==nver&&(size==size&&(dig==dig&&(start==start&&true))) else false then bif bif true then pages==pages else false then bif bif true then version==version else false then Ct V3 8 Try.f14 [1,1,1,1,1,1,1] 0 (pubK E K) { fr:=none::none::oc 0 0::oc 1 0::none::oB true::oB true::oB true::oB true::oB true::oB (bif true then has==has else false)::no32 (no32 (no8 (oc 0 9::some (SV.agg [I first,I next])::oc 1 9::some (SV.agg [I first,I next])::oB (first==first&&(next==next&&true))::oB true::oc 0 15::oB full::oc 1 15::oB full::oB (full==full)::oB (bif true then full==full else false)::oB true::oc 0 19::some (SV.agg [I nver,I size,SV.raw (Value.int IntKind.u64 dig),I start])::oc 1 19::some (SV.agg [I nver,I size,SV.raw (Value.int IntKind.u64 dig),I start])::oB (nver==nver&&(size==size&&(dig==dig&&(start==start&&true))))::oB (bif true then nver==nver&&(size==size&&(dig==dig&&(start==start&&true))) else false)::oB true::oc 0 23::oI pages::oc 1 23::oI pages::oB (pages==pages)::oB (bif true then pages==pages else false)::oB true::oc 0 24::oI version::oc 1 24::oI version::oB (version==version)::oB (bif true then version==version else false)::oB true::oc 0 29::oB has::oc 1 29::oB has::oB (has==has)::oB (bif true then has==has else false)::no16 []))),bx:=[(⟨40,.lst (bcl from_ asn boot hops bound fresh seq rank parent first next full nver size dig start pages version page seed has b11 n11 c11 b12 n12 c12 b13 n13 c13 b14 n14 c14 b16 n16 c16 b17 n17 c17 b18 n18 c18 b27 n27 c27 b28 n28 c28),30,true⟩:Box),⟨40,.lst (bcl from_ asn boot hops bound fresh seq rank parent first next full nver size dig start pages version page seed has d11 n11 e11 d12 n12 e12 d13 n13 e13 d14 n14 e14 d16 n16 e16 d17 n17 e17 d18 n18 e18 d27 n27 e27 d28 n28 e28),30,true⟩],E:=E:St } else Ct V3 8 Try.f14 [1,1,1,1,1,1,1] 0 (pubK E K) { fr:=none::none::oc 0 0::oc 1 0::none::oB true::oB true::oB true::oB true::oB true::oB false::no32 (no32 (no8 (oc 0 9::some (SV.agg [I first,I next])::oc 1 9::some (SV.agg [I first,I next])::oB (first==first&&(next==next&&true))::oB true::oc 0 15::oB full::oc 1 15::oB full::oB (full==full)::oB (bif true then full==full else false)::oB true::oc 0 19::some (SV.agg [I nver,I size,SV.raw (Value.int IntKind.u64 dig),I start])::oc 1 19::some (SV.agg [I nver,I size,SV.raw (Value.int IntKind.u64 dig),I start])::oB (nver==nver&&(size==size&&(dig==dig&&(start==start&&true))))::oB (bif true then nver==nver&&(size==size&&(dig==dig&&(start==start&&true))) else false)::oB true::oc 0 23::oI pages::oc 1 23::oI pages::oB (pages==pages)::oB (bif true then pages==pages else false)::oB true::oc 0 24::oI version::oc 1 24::oI version::oB (version==version)::oB (bif true then version==version else false)::oB false::oU::oU::oU::oU::oU::oB false::no16 []))),bx:=[(⟨40,.lst (bcl from_ asn boot hops bound fresh seq rank parent first next full nver size dig start pages version page seed has b11 n11 c11 b12 n12 c12 b13 n13 c13 b14 n14 c14 b16 n16 c16 b17 n17 c17 b18 n18 c18 b27 n27 c27 b28 n28 c28),30,true⟩:Box),⟨40,.lst (bcl from_ asn boot hops bound fresh seq rank parent first next full nver size dig start pages version page seed has d11 n11 e11 d12 n12 e12 d13 n13 e13 d14 n14 e14 d16 n16 e16 d17 n17 e17 d18 n18 e18 d27 n27 e27 d28 n28 e28),30,true⟩],E:=E:St } else Ct V3 8 Try.f14 [1,1,1,1,1,1,1] 0 (pubK E K) { fr:=none::none::oc 0 0::oc 1 0::none::oB true::oB true::oB true::oB true::oB true::oB false::no32 (no32 (no8 (oc 0 9::some (SV.agg [I first,I next])::oc 1 9::some (SV.agg [I first,I next])::oB (first==first&&(next==next&&true))::oB true::oc 0 15::oB full::oc 1 15::oB full::oB (full==full)::oB (bif true then full==full else false)::oB true::oc 0 19::some (SV.agg [I nver,I size,SV.raw (Value.int IntKind.u64 dig),I start])::oc 1 19::some (SV.agg [I nver,I size,SV.raw (Value.int IntKind.u64 dig),I start])::oB (nver==nver&&(size==size&&(dig==dig&&(start==start&&true))))::oB (bif true then nver==nver&&(size==size&&(dig==dig&&(start==start&&true))) else false)::oB true::oc 0 23::oI pages::oc 1 23::oI pages::oB (pages==pages)::oB (bif true then pages==pages else false)::oB false::oU::oU::oU::oU::oU::oB false::oB false::oU::oU::oU::oU::oU::oB false::no16 []))),bx:=[(⟨40,.lst (bcl from_ asn boot hops bound fresh seq rank parent first next full nver size dig start pages version page seed has b11 n11 c11 b12 n12 c12 b13 n13 c13 b14 n14 c14 b16 n16 c16 b17 n17 c17 b18 n18 c18 b27 n27 c27 b28 n28 c28),30,true⟩:Box),⟨40,.lst (bcl from_ asn boot hops bound fresh seq rank parent first next full nver size dig start pages version page seed has d11 n11 e11 d12 n12 e12 d13 n13 e13 d14 n14 e14 d16 n16 e16 d17 n17 e17 d18 n18 e18 d27 n27 e27 d28 n28 e28),30,true⟩],E:=E:St } else Ct V3 8 Try.f14 [1,1,1,1,1,1,1] 0 (pubK E K) { fr:=none::none::oc 0 0::oc 1 0::none::oB true::oB true::oB true::oB true::oB true::oB false::no32 (no32 (no8 (oc 0 9::some (SV.agg [I first,I next])::oc 1 9::some (SV.agg [I first,I next])::oB (first==first&&(next==next&&true))::oB true::oc 0 15::oB full::oc 1 15::oB full::oB (full==full)::oB (bif true then full==full else false)::oB true::oc 0 19::some (SV.agg [I nver,I size,SV.raw (Value.int IntKind.u64 dig),I start])::oc 1 19::some (SV.agg [I nver,I size,SV.raw (Value.int IntKind.u64 dig),I start])::oB (nver==nver&&(size==size&&(dig==dig&&(start==start&&true))))::oB (bif true then nver==nver&&(size==size&&(dig==dig&&(start==start&&true))) else false)::oB false::oU::oU::oU::oU::oU::oB false::oB false::oU::oU::oU::oU::oU::oB false::oB false::oU::oU::oU::oU::oU::oB false::no16 []))),bx:=[(⟨40,.lst (bcl from_ asn boot hops bound fresh seq rank parent first next full nver size dig start pages version page seed has b11 n11 c11 b12 n12 c12 b13 n13 c13 b14 n14 c14 b16 n16 c16 b17 n17 c17 b18 n18 c18 b27 n27 c27 b28 n28 c28),30,true⟩:Box),⟨40,.lst (bcl from_ asn boot hops bound fresh seq rank parent first next full nver size dig start pages version page seed has d11 n11 e11 d12 n12 e12 d13 n13 e13 d14 n14 e14 d16 n16 e16 d17 n17 e17 d18 n18 e18 d27 n27 e27 d28 n28 e28),30,true⟩],E:=E:St } else Ct V3 8 Try.f14 [1,1,1,1,1,1,1] 0 (pubK E K) { fr:=none::none::oc 0 0::oc 1 0::none::oB true::oB true::oB true::oB true::oB true::oB false::no32 (no32 (no8 (oc 0 9::some (SV.agg [I first,I next])::oc 1 9::some (SV.agg [I first,I next])::oB (first==first&&(next==next&&true))::oB true::oc 0 15::oB full::oc 1 15::oB full::oB (full==full)::oB (bif true then full==full else false)::oB false::oU::oU::oU::oU::oU::oB false::oB false::oU::oU::oU::oU::oU::oB false::oB false::oU::oU::oU::oU::oU::oB false::oB false::oU::oU::oU::oU::oU::oB false::no16 []))),bx:=[(⟨40,.lst (bcl from_ asn boot hops bound fresh seq rank parent first next full nver size dig start pages version page seed has b11 n11 c11 b12 n12 c12 b13 n13 c13 b14 n14 c14 b16 n16 c16 b17 n17 c17 b18 n18 c18 b27 n27 c27 b28 n28 c28),30,true⟩:Box),⟨40,.lst (bcl from_ asn boot hops bound fresh seq rank parent first next full nver size dig start pages version page seed has d11 n11 e11 d12 n12 e12 d13 n13 e13 d14 n14 e14 d16 n16 e16 d17 n17 e17 d18 n18 e18 d27 n27 e27 d28 n28 e28),30,true⟩],E:=E:St } else Ct V3 8 Try.f14 [1,1,1,1,1,1,1] 0 (pubK E K) { fr:=none::none::oc 0 0::oc 1 0::none::oB true::oB true::oB true::oB true::oB true::oB false::no32 (no32 (no8 (oc 0 9::some (SV.agg [I first,I next])::oc 1 9::some (SV.agg [I first,I next])::oB (first==first&&(next==next&&true))::oB false::oU::oU::oU::oU::oU::oB false::oB false::oU::oU::oU::oU::oU::oB false::oB false::oU::oU::oU::oU::oU::oB false::oB false::oU::oU::oU::oU::oU::oB false::oB false::oU::oU::oU::oU::oU::oB false::no16 []))),bx:=[(⟨40,.lst (bcl from_ asn boot hops bound fresh seq rank parent first next full nver size dig start pages version page seed has b11 n11 c11 b12 n12 c12 b13 n13 c13 b14 n14 c14 b16 n16 c16 b17 n17 c17 b18 n18 c18 b27 n27 c27 b28 n28 c28),30,true⟩:Box),⟨40,.lst (bcl from_ asn boot hops bound fresh seq rank parent first next full nver size dig start pages version page seed has d11 n11 e11 d12 n12 e12 d13 n13 e13 d14 n14 e14 d16 n16 e16 d17 n17 e17 d18 n18 e18 d27 n27 e27 d28 n28 e28),30,true⟩],E:=E:St })
 delta no8 no16 no32 bcl
 simp only [beq_self_eq_true,Bool.and_self,Bool.and_true,cond_true]
 exact Ct_re [some 0,some 1] (Ct_intro okV3 h) (wkH mr_)
theorem pc14_5 {dig:Int} (h:Pc V3 8 Try.f14 [1,1,1,1,1,1] 0 (pubK E K) (sh14_6 from_ asn boot hops bound fresh seq rank parent first next full nver size dig start pages version page seed has b11 d11 n11 c11 e11 b12 d12 n12 c12 e12 b13 d13 n13 c13 e13 b14 d14 n14 c14 e14 b16 d16 n16 c16 e16 b17 d17 n17 c17 e17 b18 d18 n18 c18 e18 b27 d27 n27 c27 e27 b28 d28 n28 c28 e28 E)):Pc V3 8 Try.f14 [1,1,1,1,1] 0 (pubK E K) (sh14_5 from_ asn boot hops bound fresh seq rank parent first next full nver size dig start pages version page seed has b11 d11 n11 c11 e11 b12 d12 n12 c12 e12 b13 d13 n13 c13 e13 b14 d14 n14 c14 e14 b16 d16 n16 c16 e16 b17 d17 n17 c17 e17 b18 d18 n18 c18 e18 b27 d27 n27 c27 e27 b28 d28 n28 c28 e28 E):=by
 refine sm_ (?_:bif from_==from_ then bif bif true then asn==asn else false then bif bif true then boot==boot else false then bif bif true then hops==hops else false then bif bif true then bound==bound else false then bif bif true then fresh==fresh else false then bif bif true then seq==seq&&(rank==rank&&true) else false then Ct V3 8 Try.f14 [1,1,1,1,1,1] 0 (pubK E K) { fr:=none::none::oc 0 0::oc 1 0::none::oB true::oB true::oB true::oB true::oB (bif true then parent==parent else false)::no16 (no2 (none::(oc 0 0::oI from_::oc 1 0::oI from_::oB (from_==from_)::oB true::oc 0 1::oI asn::oc 1 1::oI asn::oB (asn==asn)::oB (bif true then asn==asn else false)::oB true::oc 0 2::oI boot::oc 1 2::oI boot::oB (boot==boot)::oB (bif true then boot==boot else false)::oB true::oc 0 3::oI hops::oc 1 3::oI hops::oB (hops==hops)::oB (bif true then hops==hops else false)::oB true::oc 0 4::oI bound::oc 1 4::oI bound::oB (bound==bound)::oB (bif true then bound==bound else false)::oB true::oc 0 5::oI fresh::oc 1 5::oI fresh::oB (fresh==fresh)::oB (bif true then fresh==fresh else false)::oB true::oc 0 6::some (SV.agg [I seq,I rank])::oc 1 6::some (SV.agg [I seq,I rank])::oB (seq==seq&&(rank==rank&&true))::oB (bif true then seq==seq&&(rank==rank&&true) else false)::oB true::oc 0 8::oI parent::oc 1 8::oI parent::oB (parent==parent)::oB (bif true then parent==parent else false)::no32 (no16 (no8 []))))),bx:=[(⟨40,.lst (bcl from_ asn boot hops bound fresh seq rank parent first next full nver size dig start pages version page seed has b11 n11 c11 b12 n12 c12 b13 n13 c13 b14 n14 c14 b16 n16 c16 b17 n17 c17 b18 n18 c18 b27 n27 c27 b28 n28 c28),30,true⟩:Box),⟨40,.lst (bcl from_ asn boot hops bound fresh seq rank parent first next full nver size dig start pages version page seed has d11 n11 e11 d12 n12 e12 d13 n13 e13 d14 n14 e14 d16 n16 e16 d17 n17 e17 d18 n18 e18 d27 n27 e27 d28 n28 e28),30,true⟩],E:=E:St } else Ct V3 8 Try.f14 [1,1,1,1,1,1] 0 (pubK E K) { fr:=none::none::oc 0 0::oc 1 0::none::oB true::oB true::oB true::oB true::oB false::no16 (no2 (none::(oc 0 0::oI from_::oc 1 0::oI from_::oB (from_==from_)::oB true::oc 0 1::oI asn::oc 1 1::oI asn::oB (asn==asn)::oB (bif true then asn==asn else false)::oB true::oc 0 2::oI boot::oc 1 2::oI boot::oB (boot==boot)::oB (bif true then boot==boot else false)::oB true::oc 0 3::oI hops::oc 1 3::oI hops::oB (hops==hops)::oB (bif true then hops==hops else false)::oB true::oc 0 4::oI bound::oc 1 4::oI bound::oB (bound==bound)::oB (bif true then bound==bound else false)::oB true::oc 0 5::oI fresh::oc 1 5::oI fresh::oB (fresh==fresh)::oB (bif true then fresh==fresh else false)::oB true::oc 0 6::some (SV.agg [I seq,I rank])::oc 1 6::some (SV.agg [I seq,I rank])::oB (seq==seq&&(rank==rank&&true))::oB (bif true then seq==seq&&(rank==rank&&true) else false)::oB false::oU::oU::oU::oU::oU::oB false::no32 (no16 (no8 []))))),bx:=[(⟨40,.lst (bcl from_ asn boot hops bound fresh seq rank parent first next full nver size dig start pages version page seed has b11 n11 c11 b12 n12 c12 b13 n13 c13 b14 n14 c14 b16 n16 c16 b17 n17 c17 b18 n18 c18 b27 n27 c27 b28 n28 c28),30,true⟩:Box),⟨40,.lst (bcl from_ asn boot hops bound fresh seq rank parent first next full nver size dig start pages version page seed has d11 n11 e11 d12 n12 e12 d13 n13 e13 d14 n14 e14 d16 n16 e16 d17 n17 e17 d18 n18 e18 d27 n27 e27 d28 n28 e28),30,true⟩],E:=E:St } else Ct V3 8 Try.f14 [1,1,1,1,1,1] 0 (pubK E K) { fr:=none::none::oc 0 0::oc 1 0::none::oB true::oB true::oB true::oB true::oB false::no16 (no2 (none::(oc 0 0::oI from_::oc 1 0::oI from_::oB (from_==from_)::oB true::oc 0 1::oI asn::oc 1 1::oI asn::oB (asn==asn)::oB (bif true then asn==asn else false)::oB true::oc 0 2::oI boot::oc 1 2::oI boot::oB (boot==boot)::oB (bif true then boot==boot else false)::oB true::oc 0 3::oI hops::oc 1 3::oI hops::oB (hops==hops)::oB (bif true then hops==hops else false)::oB true::oc 0 4::oI bound::oc 1 4::oI bound::oB (bound==bound)::oB (bif true then bound==bound else false)::oB true::oc 0 5::oI fresh::oc 1 5::oI fresh::oB (fresh==fresh)::oB (bif true then fresh==fresh else false)::oB false::oU::oU::oU::oU::oU::oB false::oB false::oU::oU::oU::oU::oU::oB false::no32 (no16 (no8 []))))),bx:=[(⟨40,.lst (bcl from_ asn boot hops bound fresh seq rank parent first next full nver size dig start pages version page seed has b11 n11 c11 b12 n12 c12 b13 n13 c13 b14 n14 c14 b16 n16 c16 b17 n17 c17 b18 n18 c18 b27 n27 c27 b28 n28 c28),30,true⟩:Box),⟨40,.lst (bcl from_ asn boot hops bound fresh seq rank parent first next full nver size dig start pages version page seed has d11 n11 e11 d12 n12 e12 d13 n13 e13 d14 n14 e14 d16 n16 e16 d17 n17 e17 d18 n18 e18 d27 n27 e27 d28 n28 e28),30,true⟩],E:=E:St } else Ct V3 8 Try.f14 [1,1,1,1,1,1] 0 (pubK E K) { fr:=none::none::oc 0 0::oc 1 0::none::oB true::oB true::oB true::oB true::oB false::no16 (no2 (none::(oc 0 0::oI from_::oc 1 0::oI from_::oB (from_==from_)::oB true::oc 0 1::oI asn::oc 1 1::oI asn::oB (asn==asn)::oB (bif true then asn==asn else false)::oB true::oc 0 2::oI boot::oc 1 2::oI boot::oB (boot==boot)::oB (bif true then boot==boot else false)::oB true::oc 0 3::oI hops::oc 1 3::oI hops::oB (hops==hops)::oB (bif true then hops==hops else false)::oB true::oc 0 4::oI bound::oc 1 4::oI bound::oB (bound==bound)::oB (bif true then bound==bound else false)::oB false::oU::oU::oU::oU::oU::oB false::oB false::oU::oU::oU::oU::oU::oB false::oB false::oU::oU::oU::oU::oU::oB false::no32 (no16 (no8 []))))),bx:=[(⟨40,.lst (bcl from_ asn boot hops bound fresh seq rank parent first next full nver size dig start pages version page seed has b11 n11 c11 b12 n12 c12 b13 n13 c13 b14 n14 c14 b16 n16 c16 b17 n17 c17 b18 n18 c18 b27 n27 c27 b28 n28 c28),30,true⟩:Box),⟨40,.lst (bcl from_ asn boot hops bound fresh seq rank parent first next full nver size dig start pages version page seed has d11 n11 e11 d12 n12 e12 d13 n13 e13 d14 n14 e14 d16 n16 e16 d17 n17 e17 d18 n18 e18 d27 n27 e27 d28 n28 e28),30,true⟩],E:=E:St } else Ct V3 8 Try.f14 [1,1,1,1,1,1] 0 (pubK E K) { fr:=none::none::oc 0 0::oc 1 0::none::oB true::oB true::oB true::oB true::oB false::no16 (no2 (none::(oc 0 0::oI from_::oc 1 0::oI from_::oB (from_==from_)::oB true::oc 0 1::oI asn::oc 1 1::oI asn::oB (asn==asn)::oB (bif true then asn==asn else false)::oB true::oc 0 2::oI boot::oc 1 2::oI boot::oB (boot==boot)::oB (bif true then boot==boot else false)::oB true::oc 0 3::oI hops::oc 1 3::oI hops::oB (hops==hops)::oB (bif true then hops==hops else false)::oB false::oU::oU::oU::oU::oU::oB false::oB false::oU::oU::oU::oU::oU::oB false::oB false::oU::oU::oU::oU::oU::oB false::oB false::oU::oU::oU::oU::oU::oB false::no32 (no16 (no8 []))))),bx:=[(⟨40,.lst (bcl from_ asn boot hops bound fresh seq rank parent first next full nver size dig start pages version page seed has b11 n11 c11 b12 n12 c12 b13 n13 c13 b14 n14 c14 b16 n16 c16 b17 n17 c17 b18 n18 c18 b27 n27 c27 b28 n28 c28),30,true⟩:Box),⟨40,.lst (bcl from_ asn boot hops bound fresh seq rank parent first next full nver size dig start pages version page seed has d11 n11 e11 d12 n12 e12 d13 n13 e13 d14 n14 e14 d16 n16 e16 d17 n17 e17 d18 n18 e18 d27 n27 e27 d28 n28 e28),30,true⟩],E:=E:St } else Ct V3 8 Try.f14 [1,1,1,1,1,1] 0 (pubK E K) { fr:=none::none::oc 0 0::oc 1 0::none::oB true::oB true::oB true::oB true::oB false::no16 (no2 (none::(oc 0 0::oI from_::oc 1 0::oI from_::oB (from_==from_)::oB true::oc 0 1::oI asn::oc 1 1::oI asn::oB (asn==asn)::oB (bif true then asn==asn else false)::oB true::oc 0 2::oI boot::oc 1 2::oI boot::oB (boot==boot)::oB (bif true then boot==boot else false)::oB false::oU::oU::oU::oU::oU::oB false::oB false::oU::oU::oU::oU::oU::oB false::oB false::oU::oU::oU::oU::oU::oB false::oB false::oU::oU::oU::oU::oU::oB false::oB false::oU::oU::oU::oU::oU::oB false::no32 (no16 (no8 []))))),bx:=[(⟨40,.lst (bcl from_ asn boot hops bound fresh seq rank parent first next full nver size dig start pages version page seed has b11 n11 c11 b12 n12 c12 b13 n13 c13 b14 n14 c14 b16 n16 c16 b17 n17 c17 b18 n18 c18 b27 n27 c27 b28 n28 c28),30,true⟩:Box),⟨40,.lst (bcl from_ asn boot hops bound fresh seq rank parent first next full nver size dig start pages version page seed has d11 n11 e11 d12 n12 e12 d13 n13 e13 d14 n14 e14 d16 n16 e16 d17 n17 e17 d18 n18 e18 d27 n27 e27 d28 n28 e28),30,true⟩],E:=E:St } else Ct V3 8 Try.f14 [1,1,1,1,1,1] 0 (pubK E K) { fr:=none::none::oc 0 0::oc 1 0::none::oB true::oB true::oB true::oB true::oB false::no16 (no2 (none::(oc 0 0::oI from_::oc 1 0::oI from_::oB (from_==from_)::oB true::oc 0 1::oI asn::oc 1 1::oI asn::oB (asn==asn)::oB (bif true then asn==asn else false)::oB false::oU::oU::oU::oU::oU::oB false::oB false::oU::oU::oU::oU::oU::oB false::oB false::oU::oU::oU::oU::oU::oB false::oB false::oU::oU::oU::oU::oU::oB false::oB false::oU::oU::oU::oU::oU::oB false::oB false::oU::oU::oU::oU::oU::oB false::no32 (no16 (no8 []))))),bx:=[(⟨40,.lst (bcl from_ asn boot hops bound fresh seq rank parent first next full nver size dig start pages version page seed has b11 n11 c11 b12 n12 c12 b13 n13 c13 b14 n14 c14 b16 n16 c16 b17 n17 c17 b18 n18 c18 b27 n27 c27 b28 n28 c28),30,true⟩:Box),⟨40,.lst (bcl from_ asn boot hops bound fresh seq rank parent first next full nver size dig start pages version page seed has d11 n11 e11 d12 n12 e12 d13 n13 e13 d14 n14 e14 d16 n16 e16 d17 n17 e17 d18 n18 e18 d27 n27 e27 d28 n28 e28),30,true⟩],E:=E:St } else Ct V3 8 Try.f14 [1,1,1,1,1,1] 0 (pubK E K) { fr:=none::none::oc 0 0::oc 1 0::none::oB true::oB true::oB true::oB true::oB false::no16 (no2 (none::(oc 0 0::oI from_::oc 1 0::oI from_::oB (from_==from_)::oB false::oU::oU::oU::oU::oU::oB false::oB false::oU::oU::oU::oU::oU::oB false::oB false::oU::oU::oU::oU::oU::oB false::oB false::oU::oU::oU::oU::oU::oB false::oB false::oU::oU::oU::oU::oU::oB false::oB false::oU::oU::oU::oU::oU::oB false::oB false::oU::oU::oU::oU::oU::oB false::no32 (no16 (no8 []))))),bx:=[(⟨40,.lst (bcl from_ asn boot hops bound fresh seq rank parent first next full nver size dig start pages version page seed has b11 n11 c11 b12 n12 c12 b13 n13 c13 b14 n14 c14 b16 n16 c16 b17 n17 c17 b18 n18 c18 b27 n27 c27 b28 n28 c28),30,true⟩:Box),⟨40,.lst (bcl from_ asn boot hops bound fresh seq rank parent first next full nver size dig start pages version page seed has d11 n11 e11 d12 n12 e12 d13 n13 e13 d14 n14 e14 d16 n16 e16 d17 n17 e17 d18 n18 e18 d27 n27 e27 d28 n28 e28),30,true⟩],E:=E:St })
 delta no2 no8 no16 no32 bcl
 simp only [beq_self_eq_true,Bool.and_self,Bool.and_true,cond_true]
 exact Ct_re [some 0,some 1] (Ct_intro okV3 h) (wkH mr_)
theorem ss14 {dig:Int} (h11:SL (RK .i64 4) E b11 n11 c11 uses) (h12:SL (RK .i64 5) E b12 n12 c12 grants) (h13:SL (RK .i64 3) E b13 n13 c13 asks) (h14:SL (RK .i64 4) E b14 n14 c14 below) (h16:SL (RK .i64 8) E b16 n16 c16 words) (h17:SL (RK .i64 8) E b17 n17 c17 mail) (h18:SL (RK .i64 1) E b18 n18 c18 got) (h27:Bs E b27 n27 c27 data) (h28:SL (RK .u64 1) E b28 n28 c28 proof) (k11:SL (RK .i64 4) E d11 n11 e11 uses) (k12:SL (RK .i64 5) E d12 n12 e12 grants) (k13:SL (RK .i64 3) E d13 n13 e13 asks) (k14:SL (RK .i64 4) E d14 n14 e14 below) (k16:SL (RK .i64 8) E d16 n16 e16 words) (k17:SL (RK .i64 8) E d17 n17 e17 mail) (k18:SL (RK .i64 1) E d18 n18 e18 got) (k27:Bs E d27 n27 e27 data) (k28:SL (RK .u64 1) E d28 n28 e28 proof) (hs:BcSm ⟨from_,asn,boot,hops,bound,fresh,seq,rank,parent,first,next,uses,grants,asks,below,full,words,mail,got,nver,size,dig,start,pages,version,page,seed,data,proof,has⟩) (h:K (B true) E):
  Ent V3 8 Try.f14 [.agg [I from_,I asn,I boot,I hops,I bound,I fresh,I seq,I rank,I parent,I first,I next,L b11 n11 c11,L b12 n12 c12,L b13 n13 c13,L b14 n14 c14,B full,L b16 n16 c16,L b17 n17 c17,L b18 n18 c18,I nver,I size,.raw (.int .u64 dig),I start,I pages,I version,I page,I seed,L b27 n27 c27,L b28 n28 c28,B has],.agg [I from_,I asn,I boot,I hops,I bound,I fresh,I seq,I rank,I parent,I first,I next,L d11 n11 e11,L d12 n12 e12,L d13 n13 e13,L d14 n14 e14,B full,L d16 n16 e16,L d17 n17 e17,L d18 n18 e18,I nver,I size,.raw (.int .u64 dig),I start,I pages,I version,I page,I seed,L d27 n27 e27,L d28 n28 e28,B has]] E K:=by
 refine sm_ (?_:∃ (x:Bc),(BcV E (SV.agg (bcl from_ asn boot hops bound fresh seq rank parent first next full nver size dig start pages version page seed has b11 n11 c11 b12 n12 c12 b13 n13 c13 b14 n14 c14 b16 n16 c16 b17 n17 c17 b18 n18 c18 b27 n27 c27 b28 n28 c28)) x/\BcV E (SV.agg (bcl from_ asn boot hops bound fresh seq rank parent first next full nver size dig start pages version page seed has d11 n11 e11 d12 n12 e12 d13 n13 e13 d14 n14 e14 d16 n16 e16 d17 n17 e17 d18 n18 e18 d27 n27 e27 d28 n28 e28)) x/\BcSm x)/\Mem.le E E/\∃ (xs:List (List Int)),(SL (RK IntKind.i64 8) E b16 n16 c16 xs/\SL (RK IntKind.i64 8) E d16 n16 e16 xs/\n16<=1000000)/\Mem.le E E/\∃ (xs:List (List Int)),(SL (RK IntKind.i64 8) E b17 n17 c17 xs/\SL (RK IntKind.i64 8) E d17 n17 e17 xs/\n17<=1000000)/\Mem.le E E/\∃ (page_1:Int),∃ (seed_1:Int),∃ (data:List Int),∃ (proof:List (List Int)),(BkV E (SV.agg [I page,I seed,L b27 n27 c27,L b28 n28 c28]) page_1 seed_1 data proof/\BkV E (SV.agg [I page,I seed,L d27 n27 e27,L d28 n28 e28]) page_1 seed_1 data proof/\List.length data<=1000000/\List.length proof<=1000000)/\Mem.le E E/\Ct V3 8 Try.f14 [1,1,1,1,1] 0 (pubK E K) { fr:=some (SV.agg (bcl from_ asn boot hops bound fresh seq rank parent first next full nver size dig start pages version page seed has b11 n11 c11 b12 n12 c12 b13 n13 c13 b14 n14 c14 b16 n16 c16 b17 n17 c17 b18 n18 c18 b27 n27 c27 b28 n28 c28))::some (SV.agg (bcl from_ asn boot hops bound fresh seq rank parent first next full nver size dig start pages version page seed has d11 n11 e11 d12 n12 e12 d13 n13 e13 d14 n14 e14 d16 n16 e16 d17 n17 e17 d18 n18 e18 d27 n27 e27 d28 n28 e28))::oc 0 0::oc 1 0::oB false::oB true::oB true::oB true::oB true::none::none::some (SV.agg (bcl from_ asn boot hops bound fresh seq rank parent first next full nver size dig start pages version page seed has b11 n11 c11 b12 n12 c12 b13 n13 c13 b14 n14 c14 b16 n16 c16 b17 n17 c17 b18 n18 c18 b27 n27 c27 b28 n28 c28))::some (SV.agg (bcl from_ asn boot hops bound fresh seq rank parent first next full nver size dig start pages version page seed has d11 n11 e11 d12 n12 e12 d13 n13 e13 d14 n14 e14 d16 n16 e16 d17 n17 e17 d18 n18 e18 d27 n27 e27 d28 n28 e28))::oB true::oc 0 16::oL b16 n16 c16::oc 1 16::oL d16 n16 e16::oB true::oc 0 17::oL b17 n17 c17::oc 1 17::oL d17 n17 e17::oB true::oc 0 25::some (SV.agg [I page,I seed,L b27 n27 c27,L b28 n28 c28])::oc 1 25::some (SV.agg [I page,I seed,L d27 n27 e27,L d28 n28 e28])::oB true::no32 (no32 (no32 (no8 (no4 (no2 []))))),bx:=[(⟨40,.lst (bcl from_ asn boot hops bound fresh seq rank parent first next full nver size dig start pages version page seed has b11 n11 c11 b12 n12 c12 b13 n13 c13 b14 n14 c14 b16 n16 c16 b17 n17 c17 b18 n18 c18 b27 n27 c27 b28 n28 c28),30,true⟩:Box),⟨40,.lst (bcl from_ asn boot hops bound fresh seq rank parent first next full nver size dig start pages version page seed has d11 n11 e11 d12 n12 e12 d13 n13 e13 d14 n14 e14 d16 n16 e16 d17 n17 e17 d18 n18 e18 d27 n27 e27 d28 n28 e28),30,true⟩],E:=E:St })
 delta no2 no4 no8 no32 bcl
 have hM:BcM E ⟨from_,asn,boot,hops,bound,fresh,seq,rank,parent,first,next,uses,grants,asks,below,full,words,mail,got,nver,size,dig,start,pages,version,page,seed,data,proof,has⟩ b11 n11 c11 b12 n12 c12 b13 n13 c13 b14 n14 c14 b16 n16 c16 b17 n17 c17 b18 n18 c18 b27 n27 c27 b28 n28 c28:=⟨h11,h12,h13,h14,h16,h17,h18,h27,h28⟩
 have hN:BcM E ⟨from_,asn,boot,hops,bound,fresh,seq,rank,parent,first,next,uses,grants,asks,below,full,words,mail,got,nver,size,dig,start,pages,version,page,seed,data,proof,has⟩ d11 n11 e11 d12 n12 e12 d13 n13 e13 d14 n14 e14 d16 n16 e16 d17 n17 e17 d18 n18 e18 d27 n27 e27 d28 n28 e28:=⟨k11,k12,k13,k14,k16,k17,k18,k27,k28⟩
 have t16:words.length<=100000:=hs.l16
 have t17:mail.length<=100000:=hs.l17
 have t27:data.length<=100000:=hs.l27
 have t28:proof.length<=100000:=hs.l28
 have r16:=h16.len
 have r17:=h17.len
 refine ⟨⟨from_,asn,boot,hops,bound,fresh,seq,rank,parent,first,next,uses,grants,asks,below,full,words,mail,got,nver,size,dig,start,pages,version,page,seed,data,proof,has⟩,⟨⟨b11,n11,c11,b12,n12,c12,b13,n13,c13,b14,n14,c14,b16,n16,c16,b17,n17,c17,b18,n18,c18,b27,n27,c27,b28,n28,c28,rfl,hM⟩,⟨d11,n11,e11,d12,n12,e12,d13,n13,e13,d14,n14,e14,d16,n16,e16,d17,n17,e17,d18,n18,e18,d27,n27,e27,d28,n28,e28,rfl,hN⟩,hs⟩,mr_,words,⟨h16,k16,by omega⟩,mr_,mail,⟨h17,k17,by omega⟩,mr_,page,seed,data,proof,⟨⟨b27,n27,c27,b28,n28,c28,rfl,h27,h28⟩,⟨d27,n27,e27,d28,n28,e28,rfl,k27,k28⟩,by omega,by omega⟩,mr_,?_⟩
 exact Ct_re [some 0,some 1] (Ct_intro okV3 (pc14_5 (pc14_6 (pc14_7 h)))) (wkH mr_)
structure BcFew (x:Bc):Prop where
 l11:x.uses.length<=70
 l12:x.grants.length<=70
 l13:x.asks.length<=70
 l14:x.below.length<=70
 l16:x.words.length<=70
 l17:x.mail.length<=70
 l18:x.got.length<=70
 l27:x.data.length<=300
 l28:x.proof.length<=70
theorem ss11 {dig:Int} (h11:SL (RK .i64 4) E b11 n11 c11 uses) (h12:SL (RK .i64 5) E b12 n12 c12 grants) (h13:SL (RK .i64 3) E b13 n13 c13 asks) (h14:SL (RK .i64 4) E b14 n14 c14 below) (h16:SL (RK .i64 8) E b16 n16 c16 words) (h17:SL (RK .i64 8) E b17 n17 c17 mail) (h18:SL (RK .i64 1) E b18 n18 c18 got) (h27:Bs E b27 n27 c27 data) (h28:SL (RK .u64 1) E b28 n28 c28 proof) (h:∀ f:Bool,(f=true->BcFew ⟨from_,asn,boot,hops,bound,fresh,seq,rank,parent,first,next,uses,grants,asks,below,full,words,mail,got,nver,size,dig,start,pages,version,page,seed,data,proof,has⟩)->K (B f) E):Ent V3 8 Try.f11 [.agg [I from_,I asn,I boot,I hops,I bound,I fresh,I seq,I rank,I parent,I first,I next,L b11 n11 c11,L b12 n12 c12,L b13 n13 c13,L b14 n14 c14,B full,L b16 n16 c16,L b17 n17 c17,L b18 n18 c18,I nver,I size,.raw (.int .u64 dig),I start,I pages,I version,I page,I seed,L b27 n27 c27,L b28 n28 c28,B has]] E K:=by
 refine sm_ (?_:bif decide ((↑n11:Int)<=(70:Int)) then bif bif true then decide ((↑n12:Int)<=(70:Int)) else false then bif bif true then decide ((↑n13:Int)<=(70:Int)) else false then bif bif true then decide ((↑n14:Int)<=(70:Int)) else false then bif bif true then decide ((↑n16:Int)<=(70:Int)) else false then bif bif true then decide ((↑n17:Int)<=(70:Int)) else false then bif bif true then decide ((↑n18:Int)<=(70:Int)) else false then bif bif true then decide ((↑n27:Int)<=(300:Int)) else false then Mem.le E E/\K (B (bif true then decide ((↑n28:Int)<=(70:Int)) else false)) E else Mem.le E E/\K (B false) E else Mem.le E E/\K (B false) E else Mem.le E E/\K (B false) E else Mem.le E E/\K (B false) E else Mem.le E E/\K (B false) E else Mem.le E E/\K (B false) E else Mem.le E E/\K (B false) E else Mem.le E E/\K (B false) E)
 have r11:=h11.len
 have r12:=h12.len
 have r13:=h13.len
 have r14:=h14.len
 have r16:=h16.len
 have r17:=h17.len
 have r18:=h18.len
 have r27:=h27.2.1
 have r28:=h28.len
 have no:Mem.le E E/\K (B false) E:=⟨mr_,h false (fun e=>by cases e)⟩
 refine condC (fun g11=>?_) (fun _=>no)
 have g11:n11<=70:=by simp at g11;omega
 refine condC (fun g12=>?_) (fun _=>no)
 have g12:n12<=70:=by simp at g12;omega
 refine condC (fun g13=>?_) (fun _=>no)
 have g13:n13<=70:=by simp at g13;omega
 refine condC (fun g14=>?_) (fun _=>no)
 have g14:n14<=70:=by simp at g14;omega
 refine condC (fun g16=>?_) (fun _=>no)
 have g16:n16<=70:=by simp at g16;omega
 refine condC (fun g17=>?_) (fun _=>no)
 have g17:n17<=70:=by simp at g17;omega
 refine condC (fun g18=>?_) (fun _=>no)
 have g18:n18<=70:=by simp at g18;omega
 refine condC (fun g27=>?_) (fun _=>no)
 have g27:n27<=300:=by simp at g27;omega
 refine ⟨mr_,h _ (fun g=>?_)⟩
 have g28:n28<=70:=by simp at g;omega
 exact ⟨by show uses.length<=_;omega,by show grants.length<=_;omega,by show asks.length<=_;omega,by show below.length<=_;omega,by show words.length<=_;omega,by show mail.length<=_;omega,by show got.length<=_;omega,by show data.length<=_;omega,by show proof.length<=_;omega⟩
abbrev NearR:RowR (Int×Bc):=fun E x r=>∃ b11 n11 c11 b12 n12 c12 b13 n13 c13 b14 n14 c14 b16 n16 c16 b17 n17 c17 b18 n18 c18 b27 n27 c27 b28 n28 c28,r= .int .i64 x.1::[.int .i64 x.2.from_,.int .i64 x.2.asn,.int .i64 x.2.boot,.int .i64 x.2.hops,.int .i64 x.2.bound,.int .i64 x.2.fresh,.int .i64 x.2.seq,.int .i64 x.2.rank,.int .i64 x.2.parent,.int .i64 x.2.first,.int .i64 x.2.next,.slice b11 n11 c11,.slice b12 n12 c12,.slice b13 n13 c13,.slice b14 n14 c14,.bool x.2.full,.slice b16 n16 c16,.slice b17 n17 c17,.slice b18 n18 c18,.int .i64 x.2.nver,.int .i64 x.2.size,.int .u64 x.2.dig,.int .i64 x.2.start,.int .i64 x.2.pages,.int .i64 x.2.version,.int .i64 x.2.page,.int .i64 x.2.seed,.slice b27 n27 c27,.slice b28 n28 c28,.bool x.2.has]/\BcM E x.2 b11 n11 c11 b12 n12 c12 b13 n13 c13 b14 n14 c14 b16 n16 c16 b17 n17 c17 b18 n18 c18 b27 n27 c27 b28 n28 c28
theorem NearR_ok:RowOK 31 NearR where
 mono he h:=by
  obtain ⟨b11,n11,c11,b12,n12,c12,b13,n13,c13,b14,n14,c14,b16,n16,c16,b17,n17,c17,b18,n18,c18,b27,n27,c27,b28,n28,c28,e,hM⟩:=h
  exact ⟨b11,n11,c11,b12,n12,c12,b13,n13,c13,b14,n14,c14,b16,n16,c16,b17,n17,c17,b18,n18,c18,b27,n27,c27,b28,n28,c28,e,hM.mono he⟩
 len h:=by
  obtain ⟨b11,n11,c11,b12,n12,c12,b13,n13,c13,b14,n14,c14,b16,n16,c16,b17,n17,c17,b18,n18,c18,b27,n27,c27,b28,n28,c28,rfl,hM⟩:=h
  rfl
 one h v hv:=by
  obtain ⟨b11,n11,c11,b12,n12,c12,b13,n13,c13,b14,n14,c14,b16,n16,c16,b17,n17,c17,b18,n18,c18,b27,n27,c27,b28,n28,c28,rfl,hM⟩:=h
  simp only [List.mem_cons,List.not_mem_nil,or_false] at hv
  rcases hv with rfl|rfl|rfl|rfl|rfl|rfl|rfl|rfl|rfl|rfl|rfl|rfl|rfl|rfl|rfl|rfl|rfl|rfl|rfl|rfl|rfl|rfl|rfl|rfl|rfl|rfl|rfl|rfl|rfl|rfl|rfl<;>rfl
 pos:=by decide
theorem near_told (h:SL NearR E b n c xs) (hx:xs[i]? =some x):
  ∃ b11 n11 c11 b12 n12 c12 b13 n13 c13 b14 n14 c14 b16 n16 c16 b17 n17 c17 b18 n18 c18 b27 n27 c27 b28 n28 c28,LoadE Try.prog E 40 (.slice b n c) (i*31+1) (.agg [I x.2.from_,I x.2.asn,I x.2.boot,I x.2.hops,I x.2.bound,I x.2.fresh,I x.2.seq,I x.2.rank,I x.2.parent,I x.2.first,I x.2.next,L b11 n11 c11,L b12 n12 c12,L b13 n13 c13,L b14 n14 c14,B x.2.full,L b16 n16 c16,L b17 n17 c17,L b18 n18 c18,I x.2.nver,I x.2.size,.raw (.int .u64 x.2.dig),I x.2.start,I x.2.pages,I x.2.version,I x.2.page,I x.2.seed,L b27 n27 c27,L b28 n28 c28,B x.2.has])/\BcM E x.2 b11 n11 c11 b12 n12 c12 b13 n13 c13 b14 n14 c14 b16 n16 c16 b17 n17 c17 b18 n18 c18 b27 n27 c27 b28 n28 c28:=by
 obtain ⟨cs,r,h1,h2,h3,b11,n11,c11,b12,n12,c12,b13,n13,c13,b14,n14,c14,b16,n16,c16,b17,n17,c17,b18,n18,c18,b27,n27,c27,b28,n28,c28,e,hM⟩:=h.load NearR_ok hx
 subst e
 refine ⟨b11,n11,c11,b12,n12,c12,b13,n13,c13,b14,n14,c14,b16,n16,c16,b17,n17,c17,b18,n18,c18,b27,n27,c27,b28,n28,c28,⟨cs,h1,loadW_row (k:=30) (P:=Try.prog) rfl rfl ?_ rfl⟩,hM⟩
 have e1:(cs.drop (i*31+1)).take 30=[.int .i64 x.2.from_,.int .i64 x.2.asn,.int .i64 x.2.boot,.int .i64 x.2.hops,.int .i64 x.2.bound,.int .i64 x.2.fresh,.int .i64 x.2.seq,.int .i64 x.2.rank,.int .i64 x.2.parent,.int .i64 x.2.first,.int .i64 x.2.next,.slice b11 n11 c11,.slice b12 n12 c12,.slice b13 n13 c13,.slice b14 n14 c14,.bool x.2.full,.slice b16 n16 c16,.slice b17 n17 c17,.slice b18 n18 c18,.int .i64 x.2.nver,.int .i64 x.2.size,.int .u64 x.2.dig,.int .i64 x.2.start,.int .i64 x.2.pages,.int .i64 x.2.version,.int .i64 x.2.page,.int .i64 x.2.seed,.slice b27 n27 c27,.slice b28 n28 c28,.bool x.2.has]:=by
  have e2:=congrArg (List.drop 1) h2
  rw [List.drop_take,List.drop_drop] at e2
  exact e2
 rw [← List.map_drop,← List.map_take,e1];rfl
theorem near_frame (h:SL NearR E b n c xs) (hx:xs[i]? =some x):LoadE Try.prog E 3 (.slice b n c) (i*31+0) (I x.1):=by
 obtain ⟨r,v,⟨b11,n11,c11,b12,n12,c12,b13,n13,c13,b14,n14,c14,b16,n16,c16,b17,n17,c17,b18,n18,c18,b27,n27,c27,b28,n28,c28,e,hM⟩,h3,h4⟩:=h.loadC NearR_ok (P:=Try.prog) (T:=3) rfl rfl hx (j:=0) (by decide)
 subst e
 have h3:some (Value.int .i64 x.1)=some v:=h3
 cases h3;exact h4
theorem near_from (h:SL NearR E b n c xs) (hx:xs[i]? =some x):LoadE Try.prog E 3 (.slice b n c) (i*31+1) (I x.2.from_):=by
 obtain ⟨r,v,⟨b11,n11,c11,b12,n12,c12,b13,n13,c13,b14,n14,c14,b16,n16,c16,b17,n17,c17,b18,n18,c18,b27,n27,c27,b28,n28,c28,e,hM⟩,h3,h4⟩:=h.loadC NearR_ok (P:=Try.prog) (T:=3) rfl rfl hx (j:=1) (by decide)
 subst e
 have h3:some (Value.int .i64 x.2.from_)=some v:=h3
 cases h3;exact h4
theorem near_whole (h:SL NearR E b n c xs) (hx:xs[i]? =some x):
  ∃ b11 n11 c11 b12 n12 c12 b13 n13 c13 b14 n14 c14 b16 n16 c16 b17 n17 c17 b18 n18 c18 b27 n27 c27 b28 n28 c28,LoadE Try.prog E 61 (.slice b n c) (i*31) (.agg (I x.1::[I x.2.from_,I x.2.asn,I x.2.boot,I x.2.hops,I x.2.bound,I x.2.fresh,I x.2.seq,I x.2.rank,I x.2.parent,I x.2.first,I x.2.next,L b11 n11 c11,L b12 n12 c12,L b13 n13 c13,L b14 n14 c14,B x.2.full,L b16 n16 c16,L b17 n17 c17,L b18 n18 c18,I x.2.nver,I x.2.size,.raw (.int .u64 x.2.dig),I x.2.start,I x.2.pages,I x.2.version,I x.2.page,I x.2.seed,L b27 n27 c27,L b28 n28 c28,B x.2.has]))/\BcM E x.2 b11 n11 c11 b12 n12 c12 b13 n13 c13 b14 n14 c14 b16 n16 c16 b17 n17 c17 b18 n18 c18 b27 n27 c27 b28 n28 c28:=by
 obtain ⟨r,⟨b11,n11,c11,b12,n12,c12,b13,n13,c13,b14,n14,c14,b16,n16,c16,b17,n17,c17,b18,n18,c18,b27,n27,c27,b28,n28,c28,e,hM⟩,h3⟩:=h.loadE NearR_ok (P:=Try.prog) (T:=61) rfl rfl hx
 subst e
 exact ⟨b11,n11,c11,b12,n12,c12,b13,n13,c13,b14,n14,c14,b16,n16,c16,b17,n17,c17,b18,n18,c18,b27,n27,c27,b28,n28,c28,h3,hM⟩
noncomputable def tabS3:FuncId->List SV->Mem->(SV->Mem->Prop)->Prop:=fun f args E K=>match f with
 | 11=>d1 args fun x0=>∃ x:Bc,BcV E x0 x/\∀ f:Bool,(f=true->BcFew x)->K (B f) E
 | 14=>d2 args fun x0 x1=>∃ x:Bc,(BcV E x0 x/\BcV E x1 x/\BcSm x)/\K (B true) E
 | _=>False
theorem tabS3_ok:TabOK Try.prog tabS3:=by
 intro f args E K h
 unfold tabS3 at h
 split at h
 ·obtain ⟨x0,rfl,x,hx,hk⟩:=d1_elim h
  obtain ⟨b11,n11,c11,b12,n12,c12,b13,n13,c13,b14,n14,c14,b16,n16,c16,b17,n17,c17,b18,n18,c18,b27,n27,c27,b28,n28,c28,rfl,M⟩:=hx.ex
  exact esm okV3 Try.func11 rfl (ss11 M.h11 M.h12 M.h13 M.h14 M.h16 M.h17 M.h18 M.h27 M.h28 hk)
 ·obtain ⟨x0,x1,rfl,x,⟨hx,hy,hs⟩,hk⟩:=d2_elim h
  obtain ⟨b11,n11,c11,b12,n12,c12,b13,n13,c13,b14,n14,c14,b16,n16,c16,b17,n17,c17,b18,n18,c18,b27,n27,c27,b28,n28,c28,rfl,M⟩:=hx.ex
  obtain ⟨d11,m11,e11,d12,m12,e12,d13,m13,e13,d14,m14,e14,d16,m16,e16,d17,m17,e17,d18,m18,e18,d27,m27,e27,d28,m28,e28,rfl,N⟩:=hy.ex
  have p11:=M.h11.len
  have r11:=N.h11.len
  have t11:=hs.l11
  obtain rfl:n11=m11:=by omega
  have p12:=M.h12.len
  have r12:=N.h12.len
  have t12:=hs.l12
  obtain rfl:n12=m12:=by omega
  have p13:=M.h13.len
  have r13:=N.h13.len
  have t13:=hs.l13
  obtain rfl:n13=m13:=by omega
  have p14:=M.h14.len
  have r14:=N.h14.len
  have t14:=hs.l14
  obtain rfl:n14=m14:=by omega
  have p16:=M.h16.len
  have r16:=N.h16.len
  have t16:=hs.l16
  obtain rfl:n16=m16:=by omega
  have p17:=M.h17.len
  have r17:=N.h17.len
  have t17:=hs.l17
  obtain rfl:n17=m17:=by omega
  have p18:=M.h18.len
  have r18:=N.h18.len
  have t18:=hs.l18
  obtain rfl:n18=m18:=by omega
  have p27:=M.h27.2.1
  have r27:=N.h27.2.1
  have t27:=hs.l27
  obtain rfl:n27=m27:=by omega
  have p28:=M.h28.len
  have r28:=N.h28.len
  have t28:=hs.l28
  obtain rfl:n28=m28:=by omega
  exact esm okV3 Try.func14 rfl (ss14 M.h11 M.h12 M.h13 M.h14 M.h16 M.h17 M.h18 M.h27 M.h28 N.h11 N.h12 N.h13 N.h14 N.h16 N.h17 N.h18 N.h27 N.h28 hs hk)
 ·exact h.elim
noncomputable def V4:Cx:={ P:=Try.prog,inl:=fun f=>List.contains [] f,tab:=tabS3,isB:=fun _=>false,tabB:=fun _ _ _ _ _=>False,opt:={ unroll:=0,carry:=[3,5] },muts:=mutsD }
theorem okV4:CxOK V4:=CxOK.four tabS3_ok (by kernel_rfl) (okInl (by kernel_rfl)) (fun _ _ _ _ _ h=>h.elim)
def sh17 (b:Option Addr) (n c i:Nat) (E:Mem):St:=⟨[oL b n c,none,none,oI (i:Nat)]++List.replicate 22 none,[],E⟩
theorem rn17 (h0:SL NearR E b n c xs) (hi:i<=n/\i<=70/\∀ (j:Nat) x,j<i->xs[j]? =some x->BcFew x.2) (h:∀ f:Bool,(f=true->n<=70/\∀ x∈xs,BcFew x.2)->K (B f) E)
  (ih:i<n->i<70->(∀ x,xs[i]? =some x->BcFew x.2)->Lp V4 8 Try.f17 [1,0,1,0] 0 (pubK E K) (sh17 b n c (i+1) E)):Rnd V4 8 Try.f17 [1,0,1,0] 0 (pubK E K) (sh17 b n c i E):=by
 refine sm_ (?_:bif decide ((NI i)<(NI n)) then bif bif true then decide ((NI i)<70) else false then req (0<=(NI i)/\(NI i)<(NI n)) ((∃ (cs:List Value),E (VS b n c) cs/\(cs=[]->False))/\∃ (n_1:Int),∃ (n_2:Int),∃ (n_3:Int),∃ (n_4:Int),∃ (n_5:Int),∃ (n_6:Int),∃ (n_7:Int),∃ (n_8:Int),∃ (n_9:Int),∃ (n_10:Int),∃ (n_11:Int),∃ (base:Option Addr),∃ (len:Nat),∃ (cap:Nat),∃ (base_1:Option Addr),∃ (len_1:Nat),∃ (cap_1:Nat),∃ (base_2:Option Addr),∃ (len_2:Nat),∃ (cap_2:Nat),∃ (base_3:Option Addr),∃ (len_3:Nat),∃ (cap_3:Nat),∃ (b_1:Bool),∃ (base_4:Option Addr),∃ (len_4:Nat),∃ (cap_4:Nat),∃ (base_5:Option Addr),∃ (len_5:Nat),∃ (cap_5:Nat),∃ (base_6:Option Addr),∃ (len_6:Nat),∃ (cap_6:Nat),∃ (n_12:Int),∃ (n_13:Int),∃ (n_14:Int),∃ (n_15:Int),∃ (n_16:Int),∃ (n_17:Int),∃ (n_18:Int),∃ (n_19:Int),∃ (base_7:Option Addr),∃ (len_7:Nat),∃ (cap_7:Nat),∃ (base_8:Option Addr),∃ (len_8:Nat),∃ (cap_8:Nat),∃ (b_2:Bool),LoadE V4.P E 40 (VS b n c) (Int.toNat (NI i)*(31:Nat)+1) (SV.agg (bcl n_1 n_2 n_3 n_4 n_5 n_6 n_7 n_8 n_9 n_10 n_11 b_1 n_12 n_13 n_14 n_15 n_16 n_17 n_18 n_19 b_2 base len cap base_1 len_1 cap_1 base_2 len_2 cap_2 base_3 len_3 cap_3 base_4 len_4 cap_4 base_5 len_5 cap_5 base_6 len_6 cap_6 base_7 len_7 cap_7 base_8 len_8 cap_8))/\∃ (x:Bc),BcV E (SV.agg (bcl n_1 n_2 n_3 n_4 n_5 n_6 n_7 n_8 n_9 n_10 n_11 b_1 n_12 n_13 n_14 n_15 n_16 n_17 n_18 n_19 b_2 base len cap base_1 len_1 cap_1 base_2 len_2 cap_2 base_3 len_3 cap_3 base_4 len_4 cap_4 base_5 len_5 cap_5 base_6 len_6 cap_6 base_7 len_7 cap_7 base_8 len_8 cap_8)) x/\∀ (f:Bool),(f=true->BcFew x)->Mem.le E E/\bif !f then Mem.le E E/\K (B false) E else Lp V4 8 Try.f17 [(1:Nat),(0:Nat),(1:Nat),(0:Nat)] (0:Nat) (pubK E K) { fr:=some (L b n c)::none::none::oI (WI ((NI i)+1))::none::oI (NI i)::no16 (no4 []),bx:=[],E:=E:St }) else Mem.le E E/\K (B (decide ((NI n)<=70))) E else Mem.le E E/\K (B (decide ((NI n)<=70))) E)
 delta WI NI VS no4 no16 bcl
 have hl:=h0.len
 have fin:i=n\/i=70->Mem.le E E/\K (B (decide ((n:Int)<=70))) E:=fun e=>⟨mr_,h _ (fun q=>by
  have q:(n:Int)<=70:=by simpa using q
  refine ⟨by omega,fun x hx=>?_⟩
  obtain ⟨j,hj,e2⟩:=List.getElem_of_mem hx
  exact hi.2.2 j x (by omega) (by rw [← e2];exact List.getElem?_eq_getElem hj))⟩
 refine condC (fun g=>condC (fun g2=>?_) (fun g2=>fin (by simp at g2;omega))) (fun g=>fin (by simp at g;omega))
 have g:i<n:=by simpa using g
 have g2:i<70:=by simp at g2;omega
 have w:IntKind.wrap .i64 ((i:Int)+1)=((i+1:Nat):Int):=by rw [wrap_i64 (by omega)];omega
 obtain ⟨x,hx⟩:∃ x,xs[i]? =some x:=⟨_,List.getElem?_eq_getElem (by omega)⟩
 obtain ⟨b11,n11,c11,b12,n12,c12,b13,n13,c13,b14,n14,c14,b16,n16,c16,b17,n17,c17,b18,n18,c18,b27,n27,c27,b28,n28,c28,lt,hM⟩:=near_told h0 hx
 refine req_intro (by omega) ⟨SL.ne NearR_ok h0 g,x.2.from_,x.2.asn,x.2.boot,x.2.hops,x.2.bound,x.2.fresh,x.2.seq,x.2.rank,x.2.parent,x.2.first,x.2.next,b11,n11,c11,b12,n12,c12,b13,n13,c13,b14,n14,c14,x.2.full,b16,n16,c16,b17,n17,c17,b18,n18,c18,x.2.nver,x.2.size,x.2.dig,x.2.start,x.2.pages,x.2.version,x.2.page,x.2.seed,b27,n27,c27,b28,n28,c28,x.2.has,lt,x.2,⟨⟨b11,n11,c11,b12,n12,c12,b13,n13,c13,b14,n14,c14,b16,n16,c16,b17,n17,c17,b18,n18,c18,b27,n27,c27,b28,n28,c28,rfl,hM⟩⟩,fun f hf=>⟨mr_,condC (fun q=>⟨mr_,h false (fun e=>by cases e)⟩) (fun q=>?_)⟩⟩
 have q:f=true:=by simpa using q
 rw [w];exact Lp_re [] (ih g g2 (fun y hy=>by rw [hx] at hy;cases hy;exact hf q)) (wkH mr_)
theorem ss17 (h0:SL NearR E b n c xs) (h:∀ f:Bool,(f=true->n<=70/\∀ x∈xs,BcFew x.2)->K (B f) E):Ent V4 8 Try.f17 [L b n c] E K:=by
 refine sm_ (?_:Lp V4 8 Try.f17 [1,0,1,0] 0 (pubK E K) { fr:=some (L b n c)::none::none::oI 0::no16 (no4 (no2 [])),bx:=[],E:=E:St })
 delta no2 no4 no16
 exact Lp_re [] (Lp_ind okV4 (fun z:{i:Nat//i<=n/\i<=70/\∀ (j:Nat) x,j<i->xs[j]? =some x->BcFew x.2}=>sh17 b n c z.1 E) (fun z=>n-z.1) (fun z ih=>rn17 h0 z.2 h fun g g2 hf=>ih ⟨z.1+1,g,g2,fun j x hj hx=>by
  rcases Nat.lt_succ_iff_lt_or_eq.1 hj with h1|h1
  ·exact z.2.2.2 j x h1 hx
  ·subst h1;exact hf x hx⟩ (by show n-(_+1)<n-_;omega)) ⟨0,Nat.zero_le _,Nat.zero_le _,fun j x hj=>absurd hj (Nat.not_lt_zero _)⟩) (wkH mr_)
def sh19 (b d:Option Addr) (n c e i:Nat) (E:Mem):St:=⟨[oL b n c,oL d n e,none,none,none,oI (i:Nat)]++List.replicate 38 none,[],E⟩
theorem rn19 (h0:SL NearR E b n c xs) (h1:SL NearR E d n e xs) (hs:∀ x∈xs,BcSm x.2) (hn:n<=1000000) (hi:i<=n) (h:K (B true) E)
  (ih:i<n->Lp V4 8 Try.f19 [1,1,0,1,0] 0 (pubK E K) (sh19 b d n c e (i+1) E)):Rnd V4 8 Try.f19 [1,1,0,1,0] 0 (pubK E K) (sh19 b d n c e i E):=by
 refine sm_ (?_:bif decide ((NI i)<(NI n)) then req (0<=(NI i)/\(NI i)<(NI n)) ((∃ (cs:List Value),E (VS b n c) cs/\(cs=[]->False))/\∃ (n_1:Int),∃ (n_2:Int),∃ (n_3:Int),∃ (n_4:Int),∃ (n_5:Int),∃ (n_6:Int),∃ (n_7:Int),∃ (n_8:Int),∃ (n_9:Int),∃ (n_10:Int),∃ (n_11:Int),∃ (base:Option Addr),∃ (len:Nat),∃ (cap:Nat),∃ (base_1:Option Addr),∃ (len_1:Nat),∃ (cap_1:Nat),∃ (base_2:Option Addr),∃ (len_2:Nat),∃ (cap_2:Nat),∃ (base_3:Option Addr),∃ (len_3:Nat),∃ (cap_3:Nat),∃ (b_1:Bool),∃ (base_4:Option Addr),∃ (len_4:Nat),∃ (cap_4:Nat),∃ (base_5:Option Addr),∃ (len_5:Nat),∃ (cap_5:Nat),∃ (base_6:Option Addr),∃ (len_6:Nat),∃ (cap_6:Nat),∃ (n_12:Int),∃ (n_13:Int),∃ (n_14:Int),∃ (n_15:Int),∃ (n_16:Int),∃ (n_17:Int),∃ (n_18:Int),∃ (n_19:Int),∃ (base_7:Option Addr),∃ (len_7:Nat),∃ (cap_7:Nat),∃ (base_8:Option Addr),∃ (len_8:Nat),∃ (cap_8:Nat),∃ (b_2:Bool),LoadE V4.P E 40 (VS b n c) (Int.toNat (NI i)*(31:Nat)+1) (SV.agg (bcl n_1 n_2 n_3 n_4 n_5 n_6 n_7 n_8 n_9 n_10 n_11 b_1 n_12 n_13 n_14 n_15 n_16 n_17 n_18 n_19 b_2 base len cap base_1 len_1 cap_1 base_2 len_2 cap_2 base_3 len_3 cap_3 base_4 len_4 cap_4 base_5 len_5 cap_5 base_6 len_6 cap_6 base_7 len_7 cap_7 base_8 len_8 cap_8))/\req (0<=(NI i)/\(NI i)<(NI n)) ((∃ (cs:List Value),E (VS d n e) cs/\(cs=[]->False))/\∃ (n_20:Int),∃ (n_21:Int),∃ (n_22:Int),∃ (n_23:Int),∃ (n_24:Int),∃ (n_25:Int),∃ (n_26:Int),∃ (n_27:Int),∃ (n_28:Int),∃ (n_29:Int),∃ (n_30:Int),∃ (base_9:Option Addr),∃ (len_9:Nat),∃ (cap_9:Nat),∃ (base_10:Option Addr),∃ (len_10:Nat),∃ (cap_10:Nat),∃ (base_11:Option Addr),∃ (len_11:Nat),∃ (cap_11:Nat),∃ (base_12:Option Addr),∃ (len_12:Nat),∃ (cap_12:Nat),∃ (b_3:Bool),∃ (base_13:Option Addr),∃ (len_13:Nat),∃ (cap_13:Nat),∃ (base_14:Option Addr),∃ (len_14:Nat),∃ (cap_14:Nat),∃ (base_15:Option Addr),∃ (len_15:Nat),∃ (cap_15:Nat),∃ (n_31:Int),∃ (n_32:Int),∃ (n_33:Int),∃ (n_34:Int),∃ (n_35:Int),∃ (n_36:Int),∃ (n_37:Int),∃ (n_38:Int),∃ (base_16:Option Addr),∃ (len_16:Nat),∃ (cap_16:Nat),∃ (base_17:Option Addr),∃ (len_17:Nat),∃ (cap_17:Nat),∃ (b_4:Bool),LoadE V4.P E 40 (VS d n e) (Int.toNat (NI i)*(31:Nat)+(1:Nat)) (SV.agg (bcl n_20 n_21 n_22 n_23 n_24 n_25 n_26 n_27 n_28 n_29 n_30 b_3 n_31 n_32 n_33 n_34 n_35 n_36 n_37 n_38 b_4 base_9 len_9 cap_9 base_10 len_10 cap_10 base_11 len_11 cap_11 base_12 len_12 cap_12 base_13 len_13 cap_13 base_14 len_14 cap_14 base_15 len_15 cap_15 base_16 len_16 cap_16 base_17 len_17 cap_17))/\∃ (x:Bc),(BcV E (SV.agg (bcl n_1 n_2 n_3 n_4 n_5 n_6 n_7 n_8 n_9 n_10 n_11 b_1 n_12 n_13 n_14 n_15 n_16 n_17 n_18 n_19 b_2 base len cap base_1 len_1 cap_1 base_2 len_2 cap_2 base_3 len_3 cap_3 base_4 len_4 cap_4 base_5 len_5 cap_5 base_6 len_6 cap_6 base_7 len_7 cap_7 base_8 len_8 cap_8)) x/\BcV E (SV.agg (bcl n_20 n_21 n_22 n_23 n_24 n_25 n_26 n_27 n_28 n_29 n_30 b_3 n_31 n_32 n_33 n_34 n_35 n_36 n_37 n_38 b_4 base_9 len_9 cap_9 base_10 len_10 cap_10 base_11 len_11 cap_11 base_12 len_12 cap_12 base_13 len_13 cap_13 base_14 len_14 cap_14 base_15 len_15 cap_15 base_16 len_16 cap_16 base_17 len_17 cap_17)) x/\BcSm x)/\Mem.le E E/\req (0<=(NI i)/\(NI i)<(NI n)) ((∃ (cs:List Value),E (VS b n c) cs/\(cs=[]->False))/\∃ (n_39:Int),LoadE V4.P E 3 (VS b n c) (Int.toNat (NI i)*(31:Nat)+(0:Nat)) (I n_39)/\req (0<=(NI i)/\(NI i)<(NI n)) ((∃ (cs:List Value),E (VS d n e) cs/\(cs=[]->False))/\∃ (n_40:Int),LoadE V4.P E 3 (VS d n e) (Int.toNat (NI i)*(31:Nat)+(0:Nat)) (I n_40)/\bif bif false then true else n_39 !=n_40 then Mem.le E E/\K (B false) E else Lp V4 8 Try.f19 [(1:Nat),(1:Nat),(0:Nat),(1:Nat),(0:Nat)] (0:Nat) (pubK E K) { fr:=some (L b n c)::oL d n e::none::none::none::oI (WI ((NI i)+1))::no32 (no4 (no2 [])),bx:=[],E:=E:St })))) else Mem.le E E/\K (B true) E)
 delta WI NI VS no2 no4 no32 bcl
 have hl:=h0.len
 refine condC (fun g=>?_) (fun g=>⟨mr_,h⟩)
 have g:i<n:=by simpa using g
 have w:IntKind.wrap .i64 ((i:Int)+1)=((i+1:Nat):Int):=by rw [wrap_i64 (by omega)];omega
 obtain ⟨x,hx⟩:∃ x,xs[i]? =some x:=⟨_,List.getElem?_eq_getElem (by omega)⟩
 obtain ⟨b11,n11,c11,b12,n12,c12,b13,n13,c13,b14,n14,c14,b16,n16,c16,b17,n17,c17,b18,n18,c18,b27,n27,c27,b28,n28,c28,lt,hM⟩:=near_told h0 hx
 obtain ⟨d11,m11,e11,d12,m12,e12,d13,m13,e13,d14,m14,e14,d16,m16,e16,d17,m17,e17,d18,m18,e18,d27,m27,e27,d28,m28,e28,lu,hN⟩:=near_told h1 hx
 have v0:BcV E (.agg [I x.2.from_,I x.2.asn,I x.2.boot,I x.2.hops,I x.2.bound,I x.2.fresh,I x.2.seq,I x.2.rank,I x.2.parent,I x.2.first,I x.2.next,L b11 n11 c11,L b12 n12 c12,L b13 n13 c13,L b14 n14 c14,B x.2.full,L b16 n16 c16,L b17 n17 c17,L b18 n18 c18,I x.2.nver,I x.2.size,.raw (.int .u64 x.2.dig),I x.2.start,I x.2.pages,I x.2.version,I x.2.page,I x.2.seed,L b27 n27 c27,L b28 n28 c28,B x.2.has]) x.2:=⟨b11,n11,c11,b12,n12,c12,b13,n13,c13,b14,n14,c14,b16,n16,c16,b17,n17,c17,b18,n18,c18,b27,n27,c27,b28,n28,c28,rfl,hM⟩
 have v1:BcV E (.agg [I x.2.from_,I x.2.asn,I x.2.boot,I x.2.hops,I x.2.bound,I x.2.fresh,I x.2.seq,I x.2.rank,I x.2.parent,I x.2.first,I x.2.next,L d11 m11 e11,L d12 m12 e12,L d13 m13 e13,L d14 m14 e14,B x.2.full,L d16 m16 e16,L d17 m17 e17,L d18 m18 e18,I x.2.nver,I x.2.size,.raw (.int .u64 x.2.dig),I x.2.start,I x.2.pages,I x.2.version,I x.2.page,I x.2.seed,L d27 m27 e27,L d28 m28 e28,B x.2.has]) x.2:=⟨d11,m11,e11,d12,m12,e12,d13,m13,e13,d14,m14,e14,d16,m16,e16,d17,m17,e17,d18,m18,e18,d27,m27,e27,d28,m28,e28,rfl,hN⟩
 have hs:=hs x (List.mem_of_getElem? hx)
 have f0:=near_frame h0 hx
 have f1:=near_frame h1 hx
 refine req_intro (by omega) ⟨SL.ne NearR_ok h0 g,?_⟩
 refine ⟨x.2.from_,x.2.asn,x.2.boot,x.2.hops,x.2.bound,x.2.fresh,x.2.seq,x.2.rank,x.2.parent,x.2.first,x.2.next,b11,n11,c11,b12,n12,c12,b13,n13,c13,b14,n14,c14,x.2.full,b16,n16,c16,b17,n17,c17,b18,n18,c18,x.2.nver,x.2.size,x.2.dig,x.2.start,x.2.pages,x.2.version,x.2.page,x.2.seed,b27,n27,c27,b28,n28,c28,x.2.has,lt,?_⟩
 refine req_intro (by omega) ⟨SL.ne NearR_ok h1 g,?_⟩
 refine ⟨x.2.from_,x.2.asn,x.2.boot,x.2.hops,x.2.bound,x.2.fresh,x.2.seq,x.2.rank,x.2.parent,x.2.first,x.2.next,d11,m11,e11,d12,m12,e12,d13,m13,e13,d14,m14,e14,x.2.full,d16,m16,e16,d17,m17,e17,d18,m18,e18,x.2.nver,x.2.size,x.2.dig,x.2.start,x.2.pages,x.2.version,x.2.page,x.2.seed,d27,m27,e27,d28,m28,e28,x.2.has,lu,?_⟩
 refine ⟨x.2,⟨v0,v1,hs⟩,mr_,?_⟩
 refine req_intro (by omega) ⟨SL.ne NearR_ok h0 g,x.1,f0,?_⟩
 refine req_intro (by omega) ⟨SL.ne NearR_ok h1 g,x.1,f1,condC (fun q=>absurd q (by simp)) (fun _=>?_)⟩
 rw [w];exact Lp_re [] (ih g) (wkH mr_)
theorem ss19 (h0:SL NearR E b n c xs) (h1:SL NearR E d n e xs) (hs:∀ x∈xs,BcSm x.2) (hn:n<=1000000) (h:K (B true) E):Ent V4 8 Try.f19 [L b n c,L d n e] E K:=by
 refine sm_ (?_:bif (NI n) !=(NI n) then Mem.le E E/\K (B false) E else Lp V4 8 Try.f19 [1,1,0,1,0] 0 (pubK E K) { fr:=some (L b n c)::oL d n e::none::none::none::oI 0::none::oL b n c::oI (NI n)::oL d n e::oI (NI n)::oB ((NI n) !=(NI n))::no32 [],bx:=[],E:=E:St })
 delta NI no32
 exact condC (fun q=>absurd q (by simp)) (fun _=>Lp_re [] (Lp_ind okV4 (fun x:{i:Nat//i<=n}=>sh19 b d n c e x.1 E) (fun x=>n-x.1) (fun x ih=>rn19 h0 h1 hs hn x.2 h fun g=>ih ⟨x.1+1,g⟩ (by show n-(_+1)<n-_;omega)) ⟨0,Nat.zero_le _⟩) (wkH mr_))
noncomputable def U0:Cx:={ P:=Try.prog,inl:=fun f=>List.contains [] f,tab:=fun _ _ _ _=>False,isB:=fun _=>false,tabB:=fun _ _ _ _ _=>False,opt:={ unroll:=0,carry:=[7,10] },muts:=mutsD }
theorem okU0:CxOK U0:=CxOK.four (fun _ _ _ _ h=>h.elim) (by kernel_rfl) (okInl (by kernel_rfl)) (fun _ _ _ _ _ h=>h.elim)
def nbAt (xs:List (Int×Bc)) (i:Nat) (x:Int×Bc):Prop:=(0<=x.2.from_/\x.2.from_<=59)/\(0<=x.1/\x.1<=1000000000)/\∀ y,0<i->xs[i-1]? =some y->y.2.from_<x.2.from_
def nbOK (xs:List (Int×Bc)):Prop:=∀ (i:Nat) x,xs[i]? =some x->nbAt xs i x
def zeroBc:Bc:=⟨0,0,0,0,0,0,0,0,0,0,0,[],[],[],[],false,[],[],[],0,0,0,0,0,0,0,0,[],[],false⟩
theorem zeroM:BcM E zeroBc none 0 0 none 0 0 none 0 0 none 0 0 none 0 0 none 0 0 none 0 0 none 0 0 none 0 0:=⟨SL.nil,SL.nil,SL.nil,SL.nil,SL.nil,SL.nil,SL.nil,Bs.nil _,SL.nil⟩
def ofN (xs:List (Int×Bc)) (p:Int):Bc×Bool:=match xs.find? (fun x=>x.2.from_==p) with
 | some x=>(x.2,true)
 | none=>(zeroBc,false)
theorem ofN_no (h:∀ (j:Nat) x,xs[j]? =some x->¬ x.2.from_=p):ofN xs p=(zeroBc,false):=by
 unfold ofN
 have :xs.find? (fun x=>x.2.from_==p)=none:=by
  rw [List.find?_eq_none]
  intro x hx
  obtain ⟨j,hj,rfl⟩:=List.getElem_of_mem hx
  simpa using h j _ (List.getElem?_eq_getElem hj)
 rw [this]
theorem ofN_at (hx:xs[i]? =some x) (hp:x.2.from_=p) (h:∀ (j:Nat) x,j<i->xs[j]? =some x->¬ x.2.from_=p):ofN xs p=(x.2,true):=by
 unfold ofN
 have :xs.find? (fun x=>x.2.from_==p)=some x:=by
  rw [List.find?_eq_some_iff_getElem]
  obtain ⟨hi,e⟩:=List.getElem?_eq_some_iff.1 hx
  exact ⟨by simpa using hp,i,hi,e,fun j hj=>by simpa using h j _ hj (List.getElem?_eq_getElem (by omega))⟩
 rw [this]
def shn36 (b:Option Addr) (n c i:Nat) (E:Mem):St:=⟨[oL b n c,none,none,none,none,oL b n c,oI (n:Nat),oI (i:Nat)]++List.replicate 42 none,[],E⟩
theorem rn36 (h0:SL NearR E b n c xs) (hn:n<=9223372036854775807) (hi:i<=n/\∀ (j:Nat) x,j<i->xs[j]? =some x->nbAt xs j x) (h:∀ v:Bool,(v=true↔nbOK xs)->K (B v) E)
  (ih:i<n->(∀ x,xs[i]? =some x->nbAt xs i x)->Lp U0 8 Try.f36 [1,0,1,0] 0 (pubK E K) (shn36 b n c (i+1) E)):Rnd U0 8 Try.f36 [1,0,1,0] 0 (pubK E K) (shn36 b n c i E):=by
 refine sm_ (?_:bif decide ((NI i)<(NI n)) then req (0<=(NI i)/\(NI i)<(NI n)) ((∃ (cs:List Value),E (VS b n c) cs/\(cs=[]->False))/\∃ (n_1:Int),∃ (n_2:Int),∃ (n_3:Int),∃ (n_4:Int),∃ (n_5:Int),∃ (n_6:Int),∃ (n_7:Int),∃ (n_8:Int),∃ (n_9:Int),∃ (n_10:Int),∃ (n_11:Int),∃ (n_12:Int),∃ (base:Option Addr),∃ (len:Nat),∃ (cap:Nat),∃ (base_1:Option Addr),∃ (len_1:Nat),∃ (cap_1:Nat),∃ (base_2:Option Addr),∃ (len_2:Nat),∃ (cap_2:Nat),∃ (base_3:Option Addr),∃ (len_3:Nat),∃ (cap_3:Nat),∃ (b_1:Bool),∃ (base_4:Option Addr),∃ (len_4:Nat),∃ (cap_4:Nat),∃ (base_5:Option Addr),∃ (len_5:Nat),∃ (cap_5:Nat),∃ (base_6:Option Addr),∃ (len_6:Nat),∃ (cap_6:Nat),∃ (n_13:Int),∃ (n_14:Int),∃ (n_15:Int),∃ (n_16:Int),∃ (n_17:Int),∃ (n_18:Int),∃ (n_19:Int),∃ (n_20:Int),∃ (base_7:Option Addr),∃ (len_7:Nat),∃ (cap_7:Nat),∃ (base_8:Option Addr),∃ (len_8:Nat),∃ (cap_8:Nat),∃ (b_2:Bool),LoadE U0.P E 61 (VS b n c) (Int.toNat (NI i)*(31:Nat)) (SV.agg (I n_1::bcl n_2 n_3 n_4 n_5 n_6 n_7 n_8 n_9 n_10 n_11 n_12 b_1 n_13 n_14 n_15 n_16 n_17 n_18 n_19 n_20 b_2 base len cap base_1 len_1 cap_1 base_2 len_2 cap_2 base_3 len_3 cap_3 base_4 len_4 cap_4 base_5 len_5 cap_5 base_6 len_6 cap_6 base_7 len_7 cap_7 base_8 len_8 cap_8))/\bif decide (n_2<(0:Int)) then Mem.le E E/\K (B false) E else bif bif false then true else decide (n_2>=(60:Int)) then Mem.le E E/\K (B false) E else bif decide ((NI i)>0) then req ((0:Int)<=WI ((NI i)-1)/\WI ((NI i)-1)<(NI n)) ((∃ (cs:List Value),E (VS b n c) cs/\(cs=[]->False))/\∃ (n_21:Int),LoadE U0.P E 3 (VS b n c) (Int.toNat (WI ((NI i)-1))*(31:Nat)+(1:Nat)+(0:Nat)) (I n_21)/\bif bif false then true else bif true then decide (n_2<=n_21) else false then Mem.le E E/\K (B false) E else bif bif false then true else decide (n_1<(0:Int)) then Mem.le E E/\K (B false) E else bif bif false then true else decide (n_1>(1000000000:Int)) then Mem.le E E/\K (B false) E else Lp U0 8 Try.f36 [(1:Nat),(0:Nat),(1:Nat),(0:Nat)] (0:Nat) (pubK E K) { fr:=some (L b n c)::none::none::none::none::oL b n c::oI (NI n)::oI (WI ((NI i)+1))::none::none::some (SV.rp (VS b n c) (Int.toNat (NI i)*(31:Nat)))::no32 (no4 (no2 (none::[]))),bx:=[(⟨(61:Nat),Row.lst (I n_1::bcl n_2 n_3 n_4 n_5 n_6 n_7 n_8 n_9 n_10 n_11 n_12 b_1 n_13 n_14 n_15 n_16 n_17 n_18 n_19 n_20 b_2 base len cap base_1 len_1 cap_1 base_2 len_2 cap_2 base_3 len_3 cap_3 base_4 len_4 cap_4 base_5 len_5 cap_5 base_6 len_6 cap_6 base_7 len_7 cap_7 base_8 len_8 cap_8),(31:Nat),true⟩:Box)],E:=E:St }) else bif bif false then true else decide (n_1<(0:Int)) then Mem.le E E/\K (B false) E else bif bif false then true else decide (n_1>(1000000000:Int)) then Mem.le E E/\K (B false) E else Lp U0 8 Try.f36 [(1:Nat),(0:Nat),(1:Nat),(0:Nat)] (0:Nat) (pubK E K) { fr:=some (L b n c)::none::none::none::none::oL b n c::oI (NI n)::oI (WI ((NI i)+1))::none::none::some (SV.rp (VS b n c) (Int.toNat (NI i)*(31:Nat)))::no32 (no4 (no2 (none::[]))),bx:=[(⟨(61:Nat),Row.lst (I n_1::bcl n_2 n_3 n_4 n_5 n_6 n_7 n_8 n_9 n_10 n_11 n_12 b_1 n_13 n_14 n_15 n_16 n_17 n_18 n_19 n_20 b_2 base len cap base_1 len_1 cap_1 base_2 len_2 cap_2 base_3 len_3 cap_3 base_4 len_4 cap_4 base_5 len_5 cap_5 base_6 len_6 cap_6 base_7 len_7 cap_7 base_8 len_8 cap_8),(31:Nat),true⟩:Box)],E:=E:St }) else Mem.le E E/\K (B true) E)
 delta WI NI VS no2 no4 no32 bcl
 have hl:=h0.len
 refine condC (fun g=>?_) (fun g=>⟨mr_,h true ⟨fun _ j x hx=>hi.2 j x (by have:=(List.getElem?_eq_some_iff.1 hx).1;simp at g;omega) hx,fun _=>rfl⟩⟩)
 have g:i<n:=by simpa using g
 have w:IntKind.wrap .i64 ((i:Int)+1)=((i+1:Nat):Int):=by rw [wrap_i64 (by omega)];omega
 obtain ⟨x,hx⟩:∃ x,xs[i]? =some x:=⟨_,List.getElem?_eq_getElem (by omega)⟩
 obtain ⟨b11,n11,c11,b12,n12,c12,b13,n13,c13,b14,n14,c14,b16,n16,c16,b17,n17,c17,b18,n18,c18,b27,n27,c27,b28,n28,c28,lt,hM⟩:=near_whole h0 hx
 have no:¬ nbAt xs i x->Mem.le E E/\K (B false) E:=fun q=>⟨mr_,h false ⟨fun e=>(by cases e),fun e=>absurd (e i x hx) q⟩⟩
 have nx:nbAt xs i x->_:=fun q=>ih g (fun y hy=>by rw [hx] at hy;cases hy;exact q)
 refine req_intro (by omega) ⟨SL.ne NearR_ok h0 g,x.1,x.2.from_,x.2.asn,x.2.boot,x.2.hops,x.2.bound,x.2.fresh,x.2.seq,x.2.rank,x.2.parent,x.2.first,x.2.next,b11,n11,c11,b12,n12,c12,b13,n13,c13,b14,n14,c14,x.2.full,b16,n16,c16,b17,n17,c17,b18,n18,c18,x.2.nver,x.2.size,x.2.dig,x.2.start,x.2.pages,x.2.version,x.2.page,x.2.seed,b27,n27,c27,b28,n28,c28,x.2.has,lt,?_⟩
 rw [w]
 refine condC (fun g1=>no (fun q=>by have:=q.1;simp at g1;omega)) (fun g1=>condC (fun g2=>no (fun q=>by have:=q.1;simp at g2;omega)) (fun g2=>?_))
 have g1:0<=x.2.from_:=by simpa using g1
 have g2:x.2.from_<=59:=by simp at g2;omega
 refine condC (fun g5=>?_) (fun g5=>condC (fun g3=>no (fun q=>by have:=q.2.1;simp at g3;omega)) (fun g3=>condC (fun g4=>no (fun q=>by have:=q.2.1;simp at g4;omega)) (fun g4=>Lp_re [] (nx ⟨⟨g1,g2⟩,⟨by simp at g3;omega,by simp at g4;omega⟩,(fun y hy=>by simp at g5;omega)⟩) (wkH mr_))))
 have g5:0<i:=by simpa using g5
 have w2:IntKind.wrap .i64 ((i:Int)-1)=((i-1:Nat):Int):=by rw [wrap_i64 (by omega)];omega
 obtain ⟨y,hy⟩:∃ y,xs[i-1]? =some y:=⟨_,List.getElem?_eq_getElem (by omega)⟩
 rw [w2]
 refine req_intro (by omega) ⟨SL.ne NearR_ok h0 g,y.2.from_,near_from h0 hy,condC (fun g6=>no (fun q=>by have:=q.2.2 y g5 hy;simp at g6;omega)) (fun g6=>condC (fun g3=>no (fun q=>by have:=q.2.1;simp at g3;omega)) (fun g3=>condC (fun g4=>no (fun q=>by have:=q.2.1;simp at g4;omega)) (fun g4=>Lp_re [] (nx ⟨⟨g1,g2⟩,⟨by simp at g3;omega,by simp at g4;omega⟩,(fun z _ hz=>by rw [hy] at hz;cases hz;simp at g6;omega)⟩) (wkH mr_))))⟩
theorem ss36 (h0:SL NearR E b n c xs) (hn:n<=9223372036854775807) (h:∀ v:Bool,(v=true↔nbOK xs)->K (B v) E):Ent U0 8 Try.f36 [L b n c] E K:=by
 refine sm_ (?_:Lp U0 8 Try.f36 [1,0,1,0] 0 (pubK E K) { fr:=some (L b n c)::none::none::none::none::oL b n c::oI (NI n)::oI 0::no32 (no8 (no2 [])),bx:=[],E:=E:St })
 delta NI no2 no8 no32
 exact Lp_re [] (Lp_ind okU0 (fun z:{i:Nat//i<=n/\∀ (j:Nat) x,j<i->xs[j]? =some x->nbAt xs j x}=>shn36 b n c z.1 E) (fun z=>n-z.1) (fun z ih=>rn36 h0 hn z.2 h fun g hf=>ih ⟨z.1+1,g,fun j x hj hx=>by
  rcases Nat.lt_succ_iff_lt_or_eq.1 hj with h1|h1
  ·exact z.2.2 j x h1 hx
  ·subst h1;exact hf x hx⟩ (by show n-(_+1)<n-_;omega)) ⟨0,Nat.zero_le _,fun j x hj=>absurd hj (Nat.not_lt_zero _)⟩) (wkH mr_)
def shn24 (b:Option Addr) (n c i:Nat) (p:Int) (E:Mem):St:=⟨[none,oI p,none,none,oc 0 0,none,none,none,oL b n c,oI (n:Nat),oI (i:Nat)]++List.replicate 12 none,[⟨40,.lst [I 0,I 0,I 0,I 0,I 0,I 0,I 0,I 0,I 0,I 0,I 0,L none 0 0,L none 0 0,L none 0 0,L none 0 0,B false,L none 0 0,L none 0 0,L none 0 0,I 0,I 0,.raw (.int .u64 0),I 0,I 0,I 0,I 0,I 0,L none 0 0,L none 0 0,B false],30,true⟩],E⟩
theorem rn24 (h0:SL NearR E b n c xs) (hn:n<=9223372036854775807) (hi:i<=n/\∀ (j:Nat) x,j<i->xs[j]? =some x->¬ x.2.from_=p)
  (h:∀ (x:Bc) b11 n11 c11 b12 n12 c12 b13 n13 c13 b14 n14 c14 b16 n16 c16 b17 n17 c17 b18 n18 c18 b27 n27 c27 b28 n28 c28 (f:Bool),Hyp (ofN xs p=(x,f))->BcM E x b11 n11 c11 b12 n12 c12 b13 n13 c13 b14 n14 c14 b16 n16 c16 b17 n17 c17 b18 n18 c18 b27 n27 c27 b28 n28 c28->K (.tup [.agg [I x.from_,I x.asn,I x.boot,I x.hops,I x.bound,I x.fresh,I x.seq,I x.rank,I x.parent,I x.first,I x.next,L b11 n11 c11,L b12 n12 c12,L b13 n13 c13,L b14 n14 c14,B x.full,L b16 n16 c16,L b17 n17 c17,L b18 n18 c18,I x.nver,I x.size,.raw (.int .u64 x.dig),I x.start,I x.pages,I x.version,I x.page,I x.seed,L b27 n27 c27,L b28 n28 c28,B x.has],B f]) E)
  (ih:i<n->(∀ x,xs[i]? =some x->¬ x.2.from_=p)->Lp U0 8 Try.f24 [1,0,1,0] 0 (pubK E K) (shn24 b n c (i+1) p E)):Rnd U0 8 Try.f24 [1,0,1,0] 0 (pubK E K) (shn24 b n c i p E):=by
 refine sm_ (?_:bif decide ((NI i)<(NI n)) then req (0<=(NI i)/\(NI i)<(NI n)) ((∃ (cs:List Value),E (VS b n c) cs/\(cs=[]->False))/\∃ (n_1:Int),∃ (n_2:Int),∃ (n_3:Int),∃ (n_4:Int),∃ (n_5:Int),∃ (n_6:Int),∃ (n_7:Int),∃ (n_8:Int),∃ (n_9:Int),∃ (n_10:Int),∃ (n_11:Int),∃ (n_12:Int),∃ (base:Option Addr),∃ (len:Nat),∃ (cap:Nat),∃ (base_1:Option Addr),∃ (len_1:Nat),∃ (cap_1:Nat),∃ (base_2:Option Addr),∃ (len_2:Nat),∃ (cap_2:Nat),∃ (base_3:Option Addr),∃ (len_3:Nat),∃ (cap_3:Nat),∃ (b_1:Bool),∃ (base_4:Option Addr),∃ (len_4:Nat),∃ (cap_4:Nat),∃ (base_5:Option Addr),∃ (len_5:Nat),∃ (cap_5:Nat),∃ (base_6:Option Addr),∃ (len_6:Nat),∃ (cap_6:Nat),∃ (n_13:Int),∃ (n_14:Int),∃ (n_15:Int),∃ (n_16:Int),∃ (n_17:Int),∃ (n_18:Int),∃ (n_19:Int),∃ (n_20:Int),∃ (base_7:Option Addr),∃ (len_7:Nat),∃ (cap_7:Nat),∃ (base_8:Option Addr),∃ (len_8:Nat),∃ (cap_8:Nat),∃ (b_2:Bool),LoadE U0.P E 61 (VS b n c) (Int.toNat (NI i)*(31:Nat)) (SV.agg (I n_1::bcl n_2 n_3 n_4 n_5 n_6 n_7 n_8 n_9 n_10 n_11 n_12 b_1 n_13 n_14 n_15 n_16 n_17 n_18 n_19 n_20 b_2 base len cap base_1 len_1 cap_1 base_2 len_2 cap_2 base_3 len_3 cap_3 base_4 len_4 cap_4 base_5 len_5 cap_5 base_6 len_6 cap_6 base_7 len_7 cap_7 base_8 len_8 cap_8))/\bif n_2==p then Mem.le E E/\K (SV.tup [SV.agg (bcl n_2 n_3 n_4 n_5 n_6 n_7 n_8 n_9 n_10 n_11 n_12 b_1 n_13 n_14 n_15 n_16 n_17 n_18 n_19 n_20 b_2 base len cap base_1 len_1 cap_1 base_2 len_2 cap_2 base_3 len_3 cap_3 base_4 len_4 cap_4 base_5 len_5 cap_5 base_6 len_6 cap_6 base_7 len_7 cap_7 base_8 len_8 cap_8),B true]) E else Lp U0 8 Try.f24 [(1:Nat),(0:Nat),(1:Nat),(0:Nat)] 0 (pubK E K) { fr:=none::oI p::none::none::oc 0 0::none::none::oc 1 0::oL b n c::oI (NI n)::oI (WI ((NI i)+1))::no8 (no4 []),bx:=[(⟨(40:Nat),Row.lst [I 0,I 0,I 0,I 0,I 0,I 0,I 0,I 0,I 0,I 0,I 0,L none 0 0,L none 0 0,L none 0 0,L none 0 0,B false,L none 0 0,L none 0 0,L none 0 0,I 0,I 0,SV.raw (Value.int IntKind.u64 0),I 0,I 0,I 0,I 0,I 0,L none 0 0,L none 0 0,B false],(30:Nat),true⟩:Box),⟨(61:Nat),Row.lst (I n_1::bcl n_2 n_3 n_4 n_5 n_6 n_7 n_8 n_9 n_10 n_11 n_12 b_1 n_13 n_14 n_15 n_16 n_17 n_18 n_19 n_20 b_2 base len cap base_1 len_1 cap_1 base_2 len_2 cap_2 base_3 len_3 cap_3 base_4 len_4 cap_4 base_5 len_5 cap_5 base_6 len_6 cap_6 base_7 len_7 cap_7 base_8 len_8 cap_8),(31:Nat),true⟩],E:=E:St }) else Mem.le E E/\K (SV.tup [SV.agg (bcl 0 0 0 0 0 0 0 0 0 0 0 false 0 0 0 0 0 0 0 0 false none 0 0 none 0 0 none 0 0 none 0 0 none 0 0 none 0 0 none 0 0 none 0 0 none 0 0),B false]) E)
 delta WI NI VS no4 no8 bcl
 have hl:=h0.len
 refine condC (fun g=>?_) (fun g=>⟨mr_,h zeroBc none 0 0 none 0 0 none 0 0 none 0 0 none 0 0 none 0 0 none 0 0 none 0 0 none 0 0 false (ofN_no (fun j x hx=>hi.2 j x (by have:=(List.getElem?_eq_some_iff.1 hx).1;simp at g;omega) hx)) zeroM⟩)
 have g:i<n:=by simpa using g
 have w:IntKind.wrap .i64 ((i:Int)+1)=((i+1:Nat):Int):=by rw [wrap_i64 (by omega)];omega
 obtain ⟨x,hx⟩:∃ x,xs[i]? =some x:=⟨_,List.getElem?_eq_getElem (by omega)⟩
 obtain ⟨b11,n11,c11,b12,n12,c12,b13,n13,c13,b14,n14,c14,b16,n16,c16,b17,n17,c17,b18,n18,c18,b27,n27,c27,b28,n28,c28,lt,hM⟩:=near_whole h0 hx
 refine req_intro (by omega) ⟨SL.ne NearR_ok h0 g,x.1,x.2.from_,x.2.asn,x.2.boot,x.2.hops,x.2.bound,x.2.fresh,x.2.seq,x.2.rank,x.2.parent,x.2.first,x.2.next,b11,n11,c11,b12,n12,c12,b13,n13,c13,b14,n14,c14,x.2.full,b16,n16,c16,b17,n17,c17,b18,n18,c18,x.2.nver,x.2.size,x.2.dig,x.2.start,x.2.pages,x.2.version,x.2.page,x.2.seed,b27,n27,c27,b28,n28,c28,x.2.has,lt,condC (fun q=>⟨mr_,h x.2 b11 n11 c11 b12 n12 c12 b13 n13 c13 b14 n14 c14 b16 n16 c16 b17 n17 c17 b18 n18 c18 b27 n27 c27 b28 n28 c28 true (ofN_at hx (by simpa using q) hi.2) hM⟩) (fun q=>?_)⟩
 rw [w];exact Lp_re [some 0] (ih g (fun y hy=>by rw [hx] at hy;cases hy;simpa using q)) (wkH mr_)
theorem ss24 (h0:SL NearR E b n c xs) (hn:n<=9223372036854775807)
  (h:∀ (x:Bc) b11 n11 c11 b12 n12 c12 b13 n13 c13 b14 n14 c14 b16 n16 c16 b17 n17 c17 b18 n18 c18 b27 n27 c27 b28 n28 c28 (f:Bool),Hyp (ofN xs p=(x,f))->BcM E x b11 n11 c11 b12 n12 c12 b13 n13 c13 b14 n14 c14 b16 n16 c16 b17 n17 c17 b18 n18 c18 b27 n27 c27 b28 n28 c28->K (.tup [.agg [I x.from_,I x.asn,I x.boot,I x.hops,I x.bound,I x.fresh,I x.seq,I x.rank,I x.parent,I x.first,I x.next,L b11 n11 c11,L b12 n12 c12,L b13 n13 c13,L b14 n14 c14,B x.full,L b16 n16 c16,L b17 n17 c17,L b18 n18 c18,I x.nver,I x.size,.raw (.int .u64 x.dig),I x.start,I x.pages,I x.version,I x.page,I x.seed,L b27 n27 c27,L b28 n28 c28,B x.has],B f]) E):Ent U0 8 Try.f24 [L b n c,I p] E K:=by
 refine sm_ (?_:Lp U0 8 Try.f24 [1,0,1,0] 0 (pubK E K) { fr:=some (L b n c)::oI p::none::none::oc 0 0::none::none::none::oL b n c::oI (NI n)::oI 0::no8 (no4 []),bx:=[(⟨40,.lst (bcl 0 0 0 0 0 0 0 0 0 0 0 false 0 0 0 0 0 0 0 0 false none 0 0 none 0 0 none 0 0 none 0 0 none 0 0 none 0 0 none 0 0 none 0 0 none 0 0),30,true⟩:Box)],E:=E:St })
 delta NI no4 no8 bcl
 exact Lp_re [some 0] (Lp_ind okU0 (fun z:{i:Nat//i<=n/\∀ (j:Nat) x,j<i->xs[j]? =some x->¬ x.2.from_=p}=>shn24 b n c z.1 p E) (fun z=>n-z.1) (fun z ih=>rn24 h0 hn z.2 h fun g hf=>ih ⟨z.1+1,g,fun j x hj hx=>by
  rcases Nat.lt_succ_iff_lt_or_eq.1 hj with h1|h1
  ·exact z.2.2 j x h1 hx
  ·subst h1;exact hf x hx⟩ (by show n-(_+1)<n-_;omega)) ⟨0,Nat.zero_le _,fun j x hj=>absurd hj (Nat.not_lt_zero _)⟩) (wkH mr_)
def tabO:CallT:=fun f args bx E K=>match f,args with
 | 70,[.slc b off n cap,.slc b' off' n' cap']=>(b≠b')/\∃ y y':Box,bx[b]? =some y/\bx[b']? =some y'/\y.own=true/\y'.own=true/\0<y'.total/\K (B false) bx E
 | _,_=>False
theorem tabO_ok (f:FuncId) (args:List SV) (bx:List Box) (E:Mem) (K:KT) (h:tabO f args bx E K):CallSem Try.prog f args bx E K:=by
 unfold tabO at h
 split at h
 ·obtain ⟨h1,y,y',h2,h3,h4,h5,h6,h7⟩:=h
  exact overlaps_sem Try.func70 (by kernel_rfl) (by kernel_rfl) (by kernel_rfl) (tS:=53) (tR:=4) (e:=61) (by kernel_rfl) (by kernel_rfl) (Option.isSome_iff_exists.1 (show (Try.prog.info? 61).isSome=true by kernel_rfl)).choose_spec h2 h3 h4 h5 h1 h6 h7
 ·exact h.elim
noncomputable def I0:Cx:={ P:=Try.prog,inl:=fun f=>List.contains [] f,tab:=fun _ _ _ _=>False,isB:=fun f=>f==70,tabB:=tabO,opt:={ unroll:=0,carry:=[] },muts:=mutsD }
theorem okI0:CxOK I0:=CxOK.four (fun _ _ _ _ h=>h.elim) (by kernel_rfl) (okInl (by kernel_rfl)) tabO_ok
def insV (vs:List Value) (k:Nat) (rv:List Value):List Value:=vs.take (k*31)++rv++vs.drop (k*31)
theorem zerosL (z:List Value) (m:Nat):(zerosV z m).length=m*z.length:=by unfold zerosV;simp
theorem lay_at {A Z:List Value} (hr:rv.length=31) (ha:A.length=k*31):layV (A++Z) (k*31) rv=(A++rv)++Z.drop 31:=by
 unfold layV
 rw [List.take_left' ha,List.drop_append,List.drop_eq_nil_of_le (by omega),ha,List.nil_append,hr]
 congr 2;omega
theorem lay_len {ws:List Value} {off:Nat} (h:off+ws.length<=vs.length):(layV vs off ws).length=vs.length:=by
 unfold layV;simp only [List.length_append,List.length_take,List.length_drop];omega
theorem lay_len2 {ws:List Value} {off:Nat} (h1:off<=vs.length) (h2:vs.length<=off+ws.length):(layV vs off ws).length=off+ws.length:=by
 unfold layV;simp only [List.length_append,List.length_take,List.length_drop];omega
theorem insG {Z:List Value} (hr:rv.length=31) (hv:n*31=vs.length) (hk:k<n) (hz:Z.length=(n+1-k)*31):
  layV (layV (List.take (k*31) vs++Z) (k*31) (List.take (1*31) rv)) ((k+1)*31) (List.take ((n-k)*31) (List.drop (k*31) vs))=insV vs k rv:=by
 have ha:(vs.take (k*31)).length=k*31:=by rw [List.length_take];omega
 have hb:(vs.drop (k*31)).length=(n-k)*31:=by rw [List.length_drop];omega
 unfold insV
 rw [List.take_of_length_le (l:=rv) (by omega)]
 generalize vs.take (k*31)=A at *
 generalize vs.drop (k*31)=B at *
 rw [List.take_of_length_le (l:=B) (by omega),lay_at hr ha]
 have h2:(A++rv).length=(k+1)*31:=by rw [List.length_append];omega
 generalize A++rv=C at *
 unfold layV
 rw [List.take_left' h2,List.drop_eq_nil_of_le (by rw [List.length_append,List.length_drop];omega),List.append_nil]
theorem insI (hr:rv.length=31) (hv:n*31=vs.length) (hk:k<n):
  layV (layV vs ((k+1)*31) (List.take ((n-k)*31) (List.drop (k*31) vs))) (k*31) (List.take (1*31) rv)=insV vs k rv:=by
 have ha:(vs.take (k*31)).length=k*31:=by rw [List.length_take];omega
 have hb:(vs.drop (k*31)).length=(n-k)*31:=by rw [List.length_drop];omega
 have e:vs=vs.take (k*31)++vs.drop (k*31):=(List.take_append_drop ..).symm
 unfold insV
 rw [List.take_of_length_le (l:=rv) (by omega)]
 generalize hA:vs.take (k*31)=A at *
 generalize hB:vs.drop (k*31)=B at *
 rw [List.take_of_length_le (l:=B) (by omega)]
 have e2:layV vs ((k+1)*31) B=A++(B.take 31++B):=by
  unfold layV
  rw [e,List.drop_eq_nil_of_le (by rw [List.length_append];omega),List.append_nil,List.take_append,List.take_of_length_le (by omega),ha,List.append_assoc]
  congr 3;omega
 rw [e2,lay_at hr ha]
 congr 1
 rw [List.drop_append,List.drop_eq_nil_of_le (by rw [List.length_take];omega),List.length_take,List.nil_append,show 31-min 31 B.length=0 from by omega];rfl
theorem toNn (a:Nat):toN none a=a:=id rfl
theorem toNs (a b:Nat):toN (some (a:Int)) b=a:=id rfl
theorem sub0 (a:Nat):a-0=a:=by omega
theorem ifz {c:Prop} {h:Decidable c} {a:α}:@ite α c h a a=a:=by split<;>rfl
theorem ifn {c:Prop} {h:Decidable c} {a b:α} (hc:¬ c):@ite α c h a b=b:=if_neg hc
theorem ent40 {K:KT} (hr:rv.length=31) (hro:∀ x:Value,List.Mem x rv->x.oneCell'=true) (hv:n*31=vs.length) (ho:∀ x:Value,List.Mem x vs->x.oneCell'=true) (hc:n<=cap/\cap*31<=tot) (hk:k<=n) (hn:n<=1000000)
  (hA:k=n->∀ cap' tot':Nat,n+1<=cap'->cap'*31<=tot'->K (.slc 2 0 (n+1) cap') [⟨61,.lst [],0,false⟩,⟨61,.vals rv,31,true⟩,⟨61,.vals (insV vs k rv),tot',true⟩] E)
  (hG:∀ cap' tot':Nat,n+1<=cap'->cap'*31<=tot'->K (.slc 2 0 (n+1) cap') [⟨61,.vals vs,tot,true⟩,⟨61,.vals rv,31,true⟩,⟨61,.vals (insV vs k rv),tot',true⟩] E)
  (hI:n+1<=cap->K (.slc 0 0 (n+1) cap) [⟨61,.vals (insV vs k rv),tot,true⟩,⟨61,.vals rv,31,true⟩] E):
  EntB I0 8 Try.f40 [.slc 0 0 n cap,I (k:Nat),.slc 1 0 1 1] [⟨61,.vals vs,tot,true⟩,⟨61,.vals rv,31,true⟩] E K:=by
 refine sm_ (?_:req (0<=(NI k)/\(NI k)<=(NI (toN none n))) (bif (NI k)==(NI n) then 31<=List.length rv/\(∀ (x:Value),List.Mem x rv->Value.oneCell' x=true)/\n*31<=List.length (Row.cells (Row.vals vs))/\cap*31<=tot/\n<=cap/\req ((n+1)*392<=140737488355328) (∀ (cap' tot':Nat),n+1<=cap'->cap'*31<=tot'->K (SV.slc 2 0 (n+1) cap') [⟨61,.lst [],0,false⟩,⟨61,.vals rv,31,true⟩,⟨61,.vals (List.take (n*31) vs++List.take 31 (List.drop 0 rv)),tot',true⟩] E) else bif decide (WI ((NI n)+1)>(NI cap)) then req (0<=(NI k)/\(NI k)<=(NI (toN none cap))) (req ((if toN none cap=0 then 0 else 0)=0) ((toN (some (NI k)) n-0)*31<=List.length vs/\req ((0:Int)<WI (WI ((NI n)+1)-(NI k))) (req ((NI (toN none cap-0))<(NI (toN (some (NI k)) n-0))+WI (WI ((NI n)+1)-(NI k))) (req (((NI (toN (some (NI k)) n-0))+WI (WI ((NI n)+1)-(NI k)))*(392:Int)<=(140737488355328:Int)) (∀ (cap' tot':Nat),toN (some (NI k)) n-0+Int.toNat (WI (WI ((NI n)+1)-(NI k)))<=cap'->cap'*31<=tot'->req (0<=(NI k)/\(NI k)<=(NI (toN none (toN (some (NI k)) n-0+Int.toNat (WI (WI ((NI n)+1)-(NI k))))))) (0+min 1 (toN none (toN (some (NI k)) n-0+Int.toNat (WI (WI ((NI n)+1)-(NI k))))-toN (some (NI k)) 0)*31<=List.length rv/\(if toN none cap'=toN (some (NI k)) 0 then 0 else 0+toN (some (NI k)) 0*31)<=List.length (List.take ((toN (some (NI k)) n-0)*31) vs++zerosV [Value.int IntKind.i64 0,Value.int IntKind.i64 0,Value.int IntKind.i64 0,Value.int IntKind.i64 0,Value.int IntKind.i64 0,Value.int IntKind.i64 0,Value.int IntKind.i64 0,Value.int IntKind.i64 0,Value.int IntKind.i64 0,Value.int IntKind.i64 0,Value.int IntKind.i64 0,Value.int IntKind.i64 0,VS none 0 0,VS none 0 0,VS none 0 0,VS none 0 0,Value.bool false,VS none 0 0,VS none 0 0,VS none 0 0,Value.int IntKind.i64 0,Value.int IntKind.i64 0,Value.int IntKind.u64 0,Value.int IntKind.i64 0,Value.int IntKind.i64 0,Value.int IntKind.i64 0,Value.int IntKind.i64 0,Value.int IntKind.i64 0,VS none 0 0,VS none 0 0,Value.bool false] (Int.toNat (WI (WI ((NI n)+1)-(NI k)))))/\((if toN none cap'=toN (some (NI k)) 0 then 0 else 0+toN (some (NI k)) 0*31)+min 1 (toN none (toN (some (NI k)) n-0+Int.toNat (WI (WI ((NI n)+1)-(NI k))))-toN (some (NI k)) 0)*31<=List.length (List.take ((toN (some (NI k)) n-0)*31) vs++zerosV [Value.int IntKind.i64 0,Value.int IntKind.i64 0,Value.int IntKind.i64 0,Value.int IntKind.i64 0,Value.int IntKind.i64 0,Value.int IntKind.i64 0,Value.int IntKind.i64 0,Value.int IntKind.i64 0,Value.int IntKind.i64 0,Value.int IntKind.i64 0,Value.int IntKind.i64 0,Value.int IntKind.i64 0,VS none 0 0,VS none 0 0,VS none 0 0,VS none 0 0,Value.bool false,VS none 0 0,VS none 0 0,VS none 0 0,Value.int IntKind.i64 0,Value.int IntKind.i64 0,Value.int IntKind.u64 0,Value.int IntKind.i64 0,Value.int IntKind.i64 0,Value.int IntKind.i64 0,Value.int IntKind.i64 0,Value.int IntKind.i64 0,VS none 0 0,VS none 0 0,Value.bool false] (Int.toNat (WI (WI ((NI n)+1)-(NI k)))))\/(if toN none cap'=toN (some (NI k)) 0 then 0 else 0+toN (some (NI k)) 0*31)+min 1 (toN none (toN (some (NI k)) n-0+Int.toNat (WI (WI ((NI n)+1)-(NI k))))-toN (some (NI k)) 0)*31<=tot')/\(∀ (x:Value),List.Mem x rv->Value.oneCell' x=true)/\req ((0:Int)<=WI ((NI k)+1)/\WI ((NI k)+1)<=(NI (toN none (toN (some (NI k)) n-0+Int.toNat (WI (WI ((NI n)+1)-(NI k))))))) (req (0<=(NI k)/\(NI k)<=(NI (toN none n))) ((if toN none cap=toN (some (NI k)) 0 then 0 else 0+toN (some (NI k)) 0*31)+min (toN none n-toN (some (NI k)) 0) (toN none (toN (some (NI k)) n-0+Int.toNat (WI (WI ((NI n)+1)-(NI k))))-toN (some (WI ((NI k)+1))) 0)*31<=List.length vs/\(if toN none cap'=toN (some (WI ((NI k)+1))) 0 then 0 else 0+toN (some (WI ((NI k)+1))) 0*31)<=List.length (layV (List.take ((toN (some (NI k)) n-0)*31) vs++zerosV [Value.int IntKind.i64 0,Value.int IntKind.i64 0,Value.int IntKind.i64 0,Value.int IntKind.i64 0,Value.int IntKind.i64 0,Value.int IntKind.i64 0,Value.int IntKind.i64 0,Value.int IntKind.i64 0,Value.int IntKind.i64 0,Value.int IntKind.i64 0,Value.int IntKind.i64 0,Value.int IntKind.i64 0,VS none 0 0,VS none 0 0,VS none 0 0,VS none 0 0,Value.bool false,VS none 0 0,VS none 0 0,VS none 0 0,Value.int IntKind.i64 0,Value.int IntKind.i64 0,Value.int IntKind.u64 0,Value.int IntKind.i64 0,Value.int IntKind.i64 0,Value.int IntKind.i64 0,Value.int IntKind.i64 0,Value.int IntKind.i64 0,VS none 0 0,VS none 0 0,Value.bool false] (Int.toNat (WI (WI ((NI n)+1)-(NI k))))) (if toN none cap'=toN (some (NI k)) 0 then 0 else 0+toN (some (NI k)) 0*31) (List.take (min 1 (toN none (toN (some (NI k)) n-0+Int.toNat (WI (WI ((NI n)+1)-(NI k))))-toN (some (NI k)) 0)*31) (List.drop 0 rv)))/\((if toN none cap'=toN (some (WI ((NI k)+1))) 0 then 0 else 0+toN (some (WI ((NI k)+1))) 0*31)+min (toN none n-toN (some (NI k)) 0) (toN none (toN (some (NI k)) n-0+Int.toNat (WI (WI ((NI n)+1)-(NI k))))-toN (some (WI ((NI k)+1))) 0)*31<=List.length (layV (List.take ((toN (some (NI k)) n-0)*31) vs++zerosV [Value.int IntKind.i64 0,Value.int IntKind.i64 0,Value.int IntKind.i64 0,Value.int IntKind.i64 0,Value.int IntKind.i64 0,Value.int IntKind.i64 0,Value.int IntKind.i64 0,Value.int IntKind.i64 0,Value.int IntKind.i64 0,Value.int IntKind.i64 0,Value.int IntKind.i64 0,Value.int IntKind.i64 0,VS none 0 0,VS none 0 0,VS none 0 0,VS none 0 0,Value.bool false,VS none 0 0,VS none 0 0,VS none 0 0,Value.int IntKind.i64 0,Value.int IntKind.i64 0,Value.int IntKind.u64 0,Value.int IntKind.i64 0,Value.int IntKind.i64 0,Value.int IntKind.i64 0,Value.int IntKind.i64 0,Value.int IntKind.i64 0,VS none 0 0,VS none 0 0,Value.bool false] (Int.toNat (WI (WI ((NI n)+1)-(NI k))))) (if toN none cap'=toN (some (NI k)) 0 then 0 else 0+toN (some (NI k)) 0*31) (List.take (min 1 (toN none (toN (some (NI k)) n-0+Int.toNat (WI (WI ((NI n)+1)-(NI k))))-toN (some (NI k)) 0)*31) (List.drop 0 rv)))\/(if toN none cap'=toN (some (WI ((NI k)+1))) 0 then 0 else 0+toN (some (WI ((NI k)+1))) 0*31)+min (toN none n-toN (some (NI k)) 0) (toN none (toN (some (NI k)) n-0+Int.toNat (WI (WI ((NI n)+1)-(NI k))))-toN (some (WI ((NI k)+1))) 0)*31<=tot')/\(∀ (x:Value),List.Mem x vs->Value.oneCell' x=true)/\K (SV.slc 2 0 (toN (some (NI k)) n-0+Int.toNat (WI (WI ((NI n)+1)-(NI k)))) cap') [⟨61,.vals vs,tot,true⟩,⟨61,.vals rv,31,true⟩,⟨61,.vals (layV (layV (List.take ((toN (some (NI k)) n-0)*31) vs++zerosV [Value.int IntKind.i64 0,Value.int IntKind.i64 0,Value.int IntKind.i64 0,Value.int IntKind.i64 0,Value.int IntKind.i64 0,Value.int IntKind.i64 0,Value.int IntKind.i64 0,Value.int IntKind.i64 0,Value.int IntKind.i64 0,Value.int IntKind.i64 0,Value.int IntKind.i64 0,Value.int IntKind.i64 0,VS none 0 0,VS none 0 0,VS none 0 0,VS none 0 0,Value.bool false,VS none 0 0,VS none 0 0,VS none 0 0,Value.int IntKind.i64 0,Value.int IntKind.i64 0,Value.int IntKind.u64 0,Value.int IntKind.i64 0,Value.int IntKind.i64 0,Value.int IntKind.i64 0,Value.int IntKind.i64 0,Value.int IntKind.i64 0,VS none 0 0,VS none 0 0,Value.bool false] (Int.toNat (WI (WI ((NI n)+1)-(NI k))))) (if toN none cap'=toN (some (NI k)) 0 then 0 else 0+toN (some (NI k)) 0*31) (List.take (min 1 (toN none (toN (some (NI k)) n-0+Int.toNat (WI (WI ((NI n)+1)-(NI k))))-toN (some (NI k)) 0)*31) (List.drop 0 rv))) (if toN none cap'=toN (some (WI ((NI k)+1))) 0 then 0 else 0+toN (some (WI ((NI k)+1))) 0*31) (List.take (min (toN none n-toN (some (NI k)) 0) (toN none (toN (some (NI k)) n-0+Int.toNat (WI (WI ((NI n)+1)-(NI k))))-toN (some (WI ((NI k)+1))) 0)*31) (List.drop (if toN none cap=toN (some (NI k)) 0 then 0 else 0+toN (some (NI k)) 0*31) vs))),tot',true⟩] E)))))))) else req ((0:Int)<=WI ((NI n)+1)/\WI ((NI n)+1)<=(NI (toN none cap))) (req ((0:Int)<=WI ((NI k)+1)/\WI ((NI k)+1)<=(NI (toN none (toN (some (WI ((NI n)+1))) n-0)))) ((1=0->False)/\∃ (y:Box),∃ (y':Box),some (⟨61,.vals rv,31,true⟩:Box)=some y/\some (⟨61,.vals vs,tot,true⟩:Box)=some y'/\y.own=true/\y'.own=true/\0<y'.total/\req ((0:Int)<=WI ((NI k)+1)/\WI ((NI k)+1)<=(NI (toN none (toN (some (WI ((NI n)+1))) n-0)))) (req (0<=(NI k)/\(NI k)<=(NI (toN none (toN (some (WI ((NI n)+1))) n-0)))) ((if toN none (toN none cap-0)=toN (some (NI k)) 0 then if toN none cap=0 then 0 else 0 else (if toN none cap=0 then 0 else 0)+toN (some (NI k)) 0*31)+min (toN none (toN (some (WI ((NI n)+1))) n-0)-toN (some (NI k)) 0) (toN none (toN (some (WI ((NI n)+1))) n-0)-toN (some (WI ((NI k)+1))) 0)*31<=List.length vs/\(if toN none (toN none cap-0)=toN (some (WI ((NI k)+1))) 0 then if toN none cap=0 then 0 else 0 else (if toN none cap=0 then 0 else 0)+toN (some (WI ((NI k)+1))) 0*31)<=List.length vs/\((if toN none (toN none cap-0)=toN (some (WI ((NI k)+1))) 0 then if toN none cap=0 then 0 else 0 else (if toN none cap=0 then 0 else 0)+toN (some (WI ((NI k)+1))) 0*31)+min (toN none (toN (some (WI ((NI n)+1))) n-0)-toN (some (NI k)) 0) (toN none (toN (some (WI ((NI n)+1))) n-0)-toN (some (WI ((NI k)+1))) 0)*31<=List.length vs\/(if toN none (toN none cap-0)=toN (some (WI ((NI k)+1))) 0 then if toN none cap=0 then 0 else 0 else (if toN none cap=0 then 0 else 0)+toN (some (WI ((NI k)+1))) 0*31)+min (toN none (toN (some (WI ((NI n)+1))) n-0)-toN (some (NI k)) 0) (toN none (toN (some (WI ((NI n)+1))) n-0)-toN (some (WI ((NI k)+1))) 0)*31<=tot)/\(∀ (x:Value),List.Mem x vs->Value.oneCell' x=true)/\req (0<=(NI k)/\(NI k)<=(NI (toN none (toN (some (WI ((NI n)+1))) n-0)))) (0+min 1 (toN none (toN (some (WI ((NI n)+1))) n-0)-toN (some (NI k)) 0)*31<=List.length rv/\(if toN none (toN none cap-0)=toN (some (NI k)) 0 then if toN none cap=0 then 0 else 0 else (if toN none cap=0 then 0 else 0)+toN (some (NI k)) 0*31)<=List.length (layV vs (if toN none (toN none cap-0)=toN (some (WI ((NI k)+1))) 0 then if toN none cap=0 then 0 else 0 else (if toN none cap=0 then 0 else 0)+toN (some (WI ((NI k)+1))) 0*31) (List.take (min (toN none (toN (some (WI ((NI n)+1))) n-0)-toN (some (NI k)) 0) (toN none (toN (some (WI ((NI n)+1))) n-0)-toN (some (WI ((NI k)+1))) 0)*31) (List.drop (if toN none (toN none cap-0)=toN (some (NI k)) 0 then if toN none cap=0 then 0 else 0 else (if toN none cap=0 then 0 else 0)+toN (some (NI k)) 0*31) vs)))/\((if toN none (toN none cap-0)=toN (some (NI k)) 0 then if toN none cap=0 then 0 else 0 else (if toN none cap=0 then 0 else 0)+toN (some (NI k)) 0*31)+min 1 (toN none (toN (some (WI ((NI n)+1))) n-0)-toN (some (NI k)) 0)*31<=List.length (layV vs (if toN none (toN none cap-0)=toN (some (WI ((NI k)+1))) 0 then if toN none cap=0 then 0 else 0 else (if toN none cap=0 then 0 else 0)+toN (some (WI ((NI k)+1))) 0*31) (List.take (min (toN none (toN (some (WI ((NI n)+1))) n-0)-toN (some (NI k)) 0) (toN none (toN (some (WI ((NI n)+1))) n-0)-toN (some (WI ((NI k)+1))) 0)*31) (List.drop (if toN none (toN none cap-0)=toN (some (NI k)) 0 then if toN none cap=0 then 0 else 0 else (if toN none cap=0 then 0 else 0)+toN (some (NI k)) 0*31) vs)))\/(if toN none (toN none cap-0)=toN (some (NI k)) 0 then if toN none cap=0 then 0 else 0 else (if toN none cap=0 then 0 else 0)+toN (some (NI k)) 0*31)+min 1 (toN none (toN (some (WI ((NI n)+1))) n-0)-toN (some (NI k)) 0)*31<=tot)/\(∀ (x:Value),List.Mem x rv->Value.oneCell' x=true)/\K (SV.slc 0 (if toN none cap=0 then 0 else 0) (toN (some (WI ((NI n)+1))) n-0) (toN none cap-0)) [⟨61,.vals (layV (layV vs (if toN none (toN none cap-0)=toN (some (WI ((NI k)+1))) 0 then if toN none cap=0 then 0 else 0 else (if toN none cap=0 then 0 else 0)+toN (some (WI ((NI k)+1))) 0*31) (List.take (min (toN none (toN (some (WI ((NI n)+1))) n-0)-toN (some (NI k)) 0) (toN none (toN (some (WI ((NI n)+1))) n-0)-toN (some (WI ((NI k)+1))) 0)*31) (List.drop (if toN none (toN none cap-0)=toN (some (NI k)) 0 then if toN none cap=0 then 0 else 0 else (if toN none cap=0 then 0 else 0)+toN (some (NI k)) 0*31) vs))) (if toN none (toN none cap-0)=toN (some (NI k)) 0 then if toN none cap=0 then 0 else 0 else (if toN none cap=0 then 0 else 0)+toN (some (NI k)) 0*31) (List.take (min 1 (toN none (toN (some (WI ((NI n)+1))) n-0)-toN (some (NI k)) 0)*31) (List.drop 0 rv))),tot,true⟩,⟨61,.vals rv,31,true⟩] E)))))))
 delta WI NI VS
 have w1:IntKind.wrap .i64 ((n:Int)+1)=((n+1:Nat):Int):=by rw [wrap_i64 (by omega)];simp
 have w2:IntKind.wrap .i64 ((k:Int)+1)=((k+1:Nat):Int):=by rw [wrap_i64 (by omega)];simp
 have w3:IntKind.wrap .i64 (((n+1:Nat):Int)-(k:Int))=((n+1-k:Nat):Int):=by rw [wrap_i64 (by omega)];omega
 refine req_intro (by simp only [toN];omega) (condC (fun g=>?_) (fun g=>?_))
 ·have g:k=n:=by simp at g;omega
  refine ⟨by omega,hro,by show _<=(List.map SV.raw _).length;rw [List.length_map];omega,hc.2,hc.1,req_intro (by omega) (fun cap' tot' c1 c2=>?_)⟩
  have:=hA g cap' tot' c1 c2
  unfold insV at this
  rw [g,List.drop_eq_nil_of_le (by omega),List.append_nil] at this
  rw [List.drop_zero,List.take_of_length_le (l:=rv) (by omega)]
  exact this
 have g:k<n:=by simp at g;omega
 simp only [w1,w2,w3,toNn,toNs,sub0,Int.toNat_natCast,List.drop_zero]
 refine condC (fun g2=>?_) (fun g2=>?_)
 ·have g2:cap<n+1:=by simp at g2;omega
  refine req_intro (by omega) (req_intro ifz ⟨by omega,req_intro (by omega) (req_intro (by omega) (req_intro (by omega) (fun cap' tot' c1 c2=>?_)))⟩)
  rw [show k+(n+1-k)=n+1 from by omega] at c1 ⊢
  simp only [ifn (show ¬ cap'=k from by omega),ifn (show ¬ cap'=k+1 from by omega),ifn (show ¬ cap=k from by omega),Nat.zero_add,show min 1 (n+1-k)=1 from by omega,show min (n-k) (n+1-(k+1))=n-k from by omega]
  have hz:(List.take (k*31) vs++zerosV [.int .i64 0,.int .i64 0,.int .i64 0,.int .i64 0,.int .i64 0,.int .i64 0,.int .i64 0,.int .i64 0,.int .i64 0,.int .i64 0,.int .i64 0,.int .i64 0,.slice none 0 0,.slice none 0 0,.slice none 0 0,.slice none 0 0,.bool false,.slice none 0 0,.slice none 0 0,.slice none 0 0,.int .i64 0,.int .i64 0,.int .u64 0,.int .i64 0,.int .i64 0,.int .i64 0,.int .i64 0,.int .i64 0,.slice none 0 0,.slice none 0 0,.bool false] (n+1-k)).length=(n+1)*31:=by
   rw [List.length_append,List.length_take,zerosL];show _+_*31=_;omega
  have hq:(List.take (1*31) rv).length=31:=by rw [List.length_take];omega
  refine req_intro (by omega) ⟨by omega,by rw [hz];omega,.inl (by rw [hz];omega),hro,req_intro (by omega) (req_intro (by omega) ⟨by omega,?_,.inl ?_,ho,?_⟩)⟩
  ·rw [lay_len (by rw [hq,hz];omega),hz];omega
  ·rw [lay_len (by rw [hq,hz];omega),hz];omega
  ·rw [insG hr hv g (zerosL ..)];exact hG cap' tot' c1 c2
 ·have g2:n+1<=cap:=by simp at g2;omega
  simp only [ifz,ifn (show ¬ cap=k+1 from by omega),ifn (show ¬ cap=k from by omega),Nat.zero_add,show min 1 (n+1-k)=1 from by omega,show min (n+1-k) (n+1-(k+1))=n-k from by omega]
  have hL:(layV vs ((k+1)*31) (List.take ((n-k)*31) (List.drop (k*31) vs))).length=(n+1)*31:=by
   rw [lay_len2 (by omega) (by rw [List.length_take,List.length_drop];omega),List.length_take,List.length_drop];omega
  refine req_intro (by omega) (req_intro (by omega) ⟨(fun w=>by cases w),_,_,rfl,rfl,rfl,rfl,by show 0<tot;omega,req_intro (by omega) (req_intro (by omega) ⟨by omega,by omega,.inr (by omega),ho,req_intro (by omega) ⟨by omega,by rw [hL];omega,.inl (by rw [hL];omega),hro,?_⟩⟩)⟩)
  rw [insI hr hv g]
  exact hI g2
abbrev deadN:Box:=⟨61,.lst [],0,false⟩
theorem ins40 {bx:List Box} {b b2:Nat} {row:Row} {K:KT} (hb:bx[b]? =some ⟨61,.vals vs,tot,true⟩) (hb2:bx[b2]? =some ⟨61,row,31,true⟩) (hrow:∀ (i:Nat) v,rv[i]? =some v->row.cells[i]? =some (.raw v)) (hl:row.cells.length=31) (hr:rv.length=31) (hne:b≠b2) (hro:∀ x:Value,List.Mem x rv->x.oneCell'=true) (hv:n*31=vs.length) (ho:∀ x:Value,List.Mem x vs->x.oneCell'=true) (hc:n<=cap/\cap*31<=tot) (hk:k<=n) (hn:n<=1000000)
  (h:∀ cap' tot':Nat,n+1<=cap'->cap'*31<=tot'->K (.slc bx.length 0 (n+1) cap') (bx.set b deadN++[⟨61,.vals (insV vs k rv),tot',true⟩]) E):CallSem Try.prog 40 [.slc b 0 n cap,I (k:Nat),.slc b2 0 1 1] bx E K:=by
 have hp1:=(List.getElem?_eq_some_iff.1 hb).1
 refine CallSem.handO (σ:=[b,b2]) (bxs:=[⟨61,.vals vs,tot,true⟩,deadN]) (k:=1) (args':=[.slc 0 0 n cap,I (k:Nat),.slc 1 0 1 1]) .vals (fun _=>rfl) hb2 rfl (by simp [hne]) rfl (fun i y hi hy=>?_) ?_ (fun us h1 h2=>?_)
 ·match i,hy with
  | 0,hy=>
   simp only [List.getElem?_cons_zero,Option.some.injEq] at hy;subst hy
   exact ⟨rfl,b,rfl,hb⟩
  | 1,hy=>exact absurd rfl hi
  | j+2,hy=>simp at hy
 ·simp [SV.renL,SV.ren,renF]
 ·have e:us=rv:=by
   apply List.ext_getElem?
   intro i
   by_cases q:i<31
   ·obtain ⟨v,e1⟩:∃ v,rv[i]? =some v:=⟨_,List.getElem?_eq_getElem (by omega)⟩
    rw [h2 i v (hrow i v e1),e1]
   ·rw [List.getElem?_eq_none (by omega),List.getElem?_eq_none (by omega)]
  subst e
  have hp2:=(List.getElem?_eq_some_iff.1 hb2).1
  have fin:∀ cap' tot':Nat,n+1<=cap'->cap'*31<=tot'->(∃ r q,([deadN,⟨61,.vals us,31,true⟩,⟨61,.vals (insV vs k us),tot',true⟩]:List Box)[1]? =some ⟨61,r,31,true⟩/\Cl us row (r.ren [b,b2] bx.length) q/\K ((SV.slc 2 0 (n+1) cap').ren [b,b2] bx.length) ((merge [b,b2] bx [deadN,⟨61,.vals us,31,true⟩,⟨61,.vals (insV vs k us),tot',true⟩]).set b2 ⟨61,q,31,true⟩) E):=fun cap' tot' c1 c2=>⟨.vals us,row,rfl,Cl.id,by
   have:=h cap' tot' c1 c2
   have e2:((bx.set b deadN).set b2 (⟨61,.vals us,31,true⟩:Box)++[(⟨61,.vals (insV vs k us),tot',true⟩:Box)]).set b2 ⟨61,row,31,true⟩=bx.set b deadN++[(⟨61,.vals (insV vs k us),tot',true⟩:Box)]:=by
    rw [set_app_over (by simpa using hp2),set_same (l:=bx.set b deadN) (p:=b2) (x:=⟨61,row,31,true⟩) (by rw [List.getElem?_set_ne hne];exact hb2)]
   exact (congrArg (fun l=>K (.slc bx.length 0 (n+1) cap') l E) e2).mpr this⟩
  refine bsm okI0 Try.func40 (ent40 hr hro hv ho hc hk hn ?_ ?_ ?_)
  ·intro _ cap' tot' c1 c2
   show cloK 2 _ _ _ _
   obtain ⟨r,q,f1,f2,f3⟩:=fin cap' tot' c1 c2
   exact cloK_intro [some 0,some 1,some 2] ⟨r,q,⟨f1,f2⟩,f3⟩ (wkH mr_)
  ·intro cap' tot' c1 c2
   show cloK 2 _ _ _ _
   obtain ⟨r,q,f1,f2,f3⟩:=fin cap' tot' c1 c2
   exact cloK_intro [some 0,some 1,some 2] ⟨r,q,⟨f1,f2⟩,f3⟩ (wkH mr_)
  ·intro c1
   show cloK 2 _ _ _ _
   obtain ⟨r,q,f1,f2,f3⟩:=fin cap tot c1 hc.2
   exact cloK_intro [some 0,some 1,some 0] ⟨r,q,⟨f1,f2⟩,f3⟩ (wkH mr_)
noncomputable def I1:Cx:={ P:=Try.prog,inl:=fun f=>List.contains [] f,tab:=fun _ _ _ _=>False,isB:=fun _=>false,tabB:=fun _ _ _ _ _=>False,opt:={ unroll:=0,carry:=[] },muts:=mutsD }
theorem okI1:CxOK I1:=CxOK.four (fun _ _ _ _ h=>h.elim) (by kernel_rfl) (okInl (by kernel_rfl)) (fun _ _ _ _ _ h=>h.elim)
theorem ent39 {K:KT} (hx:SL NearR E b n c xs) (hn:n<=1000000)
  (hN:b=none->K (.raw (.slice none 0 0)) [] E)
  (hS:∀ (rs:List (List Value)) (cap' tot':Nat),SLr NearR E rs xs->n<=cap'->cap'*31<=tot'->K (.slc 1 0 n cap') [deadN,⟨61,.vals rs.flatten,tot',true⟩] E):
  EntB I1 8 Try.f39 [L b n c] [] E K:=by
 refine sm_ (?_:bif Option.isNone b then K (L none 0 0) [] E else ∃ (cs:List Value),(cs=[]\/E (Value.slice b n c) cs)/\n*31<=List.length cs/\(∀ (x:Value),List.Mem x cs->Value.oneCell' x=true)/\0<=0/\0<=0/\0<=0/\req ((0+n)*392<=140737488355328) (∀ (cap' tot':Nat),0+n<=cap'->cap'*31<=tot'->K (SV.slc 1 0 (0+n) cap') [⟨61,Row.lst [],0,false⟩,⟨61,Row.vals ([]++List.take (n*31) cs),tot',true⟩] E))
 obtain ⟨rs,q1,q2,q3,q4,q5⟩:=SL.src NearR_ok hx
 have hl:=q1.flat NearR_ok
 have hxl:=hx.len
 refine condC (fun g=>hN (by simpa using g)) (fun g=>⟨rs.flatten,q2,q3,q4,Nat.le_refl _,Nat.le_refl _,Nat.le_refl _,req_intro (by omega) (fun cap' tot' c1 c2=>?_)⟩)
 have:=hS rs cap' tot' q1 (by omega) c2
 rw [List.nil_append,List.take_of_length_le (by omega),Nat.zero_add]
 exact this
theorem cln39 {bx:List Box} {K:KT} (hx:SL NearR E b n c xs) (hn:n<=1000000)
  (h:∀ (rs:List (List Value)) (cap' tot':Nat),SLr NearR E rs xs->n<=cap'->cap'*31<=tot'->K (.slc bx.length 0 n cap') (bx++[⟨61,.vals rs.flatten,tot',true⟩]) E):CallSem Try.prog 39 [L b n c] bx E K:=by
 refine frame0 (K':=fun s bx' E'=>∃ (rs:List (List Value)) (cap' tot':Nat),(SLr NearR E rs xs/\n<=cap'/\cap'*31<=tot')/\s= .slc 0 0 n cap'/\bx'=[⟨61,.vals rs.flatten,tot',true⟩]/\E'=E) (vs:=[.slice b n c]) rfl (bsm okI1 Try.func39 (ent39 hx hn ?_ ?_)).clo ?_
 ·rintro rfl
  show cloK 0 _ _ _ _
  have e0:=hx.none
  have e1:=hx.len
  subst e0
  subst e1
  exact cloK_intro [none] ⟨[],0,0,⟨SLr.nil,Nat.le_refl _,Nat.le_refl _⟩,rfl,rfl,rfl⟩ (wkH mr_)
 ·intro rs cap' tot' h1 c1 c2
  show cloK 0 _ _ _ _
  exact cloK_intro [some 1] ⟨rs,cap',tot',⟨h1,c1,c2⟩,rfl,rfl,rfl⟩ (wkH mr_)
 ·rintro s bxs' E' ⟨rs,cap',tot',⟨h1,c1,c2⟩,rfl,rfl,rfl⟩
  have:=h rs cap' tot' h1 c1 c2
  simpa [SV.ren,renF,Box.ren,Row.ren,SV.renL] using this
noncomputable def U1:Cx:={ P:=Try.prog,inl:=fun f=>List.contains [38] f,tab:=fun _ _ _ _=>False,isB:=fun _=>false,tabB:=fun _ _ _ _ _=>False,opt:={ unroll:=0,carry:=[9,10] },muts:=mutsD }
theorem okU1:CxOK U1:=CxOK.four (fun _ _ _ _ h=>h.elim) (by kernel_rfl) (okInl (by kernel_rfl)) (fun _ _ _ _ _ h=>h.elim)
def isPos (xs:List (Int×Bc)) (p:Int) (k:Nat):Prop:=k<=xs.length/\(∀ (t:Nat) x,t<k->xs[t]? =some x->x.2.from_<p)/\(∀ (t:Nat) x,k<=t->xs[t]? =some x->p<=x.2.from_)
theorem nb_lt {xs:List (Int×Bc)} (hv:nbOK xs) {i:Nat}:∀ {j:Nat} {x y:Int×Bc},i<j->xs[i]? =some x->xs[j]? =some y->x.2.from_<y.2.from_
 | 0,x,y,h,_,_=>absurd h (Nat.not_lt_zero _)
 | j+1,x,y,h,hx,hy=>by
  have hj:j<xs.length:=by have:=(List.getElem?_eq_some_iff.1 hy).1;omega
  have h1:=(hv (j+1) y hy).2.2 xs[j] (Nat.succ_pos _) (List.getElem?_eq_getElem hj)
  by_cases e:i=j
  ·subst e;rw [List.getElem?_eq_getElem hj] at hx;cases hx;exact h1
  ·have:=nb_lt hv (show i<j by omega) hx (List.getElem?_eq_getElem hj);omega
theorem wmid {j:Nat} (h:i+j<=2000000):IntKind.wrap .i64 (Int.fdiv (IntKind.wrap .u64 (IntKind.wrap .i64 ((i:Int)+(j:Int)))) 2)=(((i+j) / 2:Nat):Int):=by
 rw [wrap_i64 (x:=(i:Int)+(j:Int)) (by omega),Go.IntWalk.u64_in _ (by omega),Int.fdiv_eq_ediv_of_nonneg _ (by decide),wrap_i64 (by omega)]
 omega
def shn37 (b:Option Addr) (n c:Nat) (p:Int) (i j:Nat) (E:Mem):St:=⟨[oL b n c,oI p,some (.clo 38 [] []),none,none,none,none,none,oI (n:Nat),oI (i:Nat),oI (j:Nat)]++List.replicate 38 none,[],E⟩
theorem rn37 {j:Nat} (h0:SL NearR E b n c xs) (hn:n<=1000000) (hv:nbOK xs) (hp:0<=p/\p<=59) (hi:i<=j/\j<=n/\(∀ (t:Nat) x,t<i->xs[t]? =some x->x.2.from_<p)/\(∀ (t:Nat) x,j<=t->xs[t]? =some x->p<=x.2.from_))
  (h:∀ (k:Nat) (f:Bool),isPos xs p k->(f=true↔∃ x,xs[k]? =some x/\x.2.from_=p)->KK (.tup [I (k:Nat),B f]) [] E) (hQ:∀ s bx',cloK 0 KK s bx' E->Q s bx' E)
  (ih:∀ i' j':Nat,j'-i'<j-i->i'<=j'->j'<=n->(∀ (t:Nat) x,t<i'->xs[t]? =some x->x.2.from_<p)->(∀ (t:Nat) x,j'<=t->xs[t]? =some x->p<=x.2.from_)->Lp U1 8 Try.f37 [1,1,1,0,0] 0 Q (shn37 b n c p i' j' E)):
  Rnd U1 8 Try.f37 [1,1,1,0,0] 0 Q (shn37 b n c p i j E):=by
 refine sm_ (?_:bif decide ((NI i)<(NI j)) then req ((0:Int)<=WI (Int.fdiv (IntKind.wrap IntKind.u64 (WI ((NI i)+(NI j)))) 2)/\WI (Int.fdiv (IntKind.wrap IntKind.u64 (WI ((NI i)+(NI j)))) 2)<(NI n)) ((∃ (cs:List Value),E (VS b n c) cs/\(cs=[]->False))/\∃ (n_1:Int),∃ (n_2:Int),∃ (n_3:Int),∃ (n_4:Int),∃ (n_5:Int),∃ (n_6:Int),∃ (n_7:Int),∃ (n_8:Int),∃ (n_9:Int),∃ (n_10:Int),∃ (n_11:Int),∃ (n_12:Int),∃ (base:Option Addr),∃ (len:Nat),∃ (cap:Nat),∃ (base_1:Option Addr),∃ (len_1:Nat),∃ (cap_1:Nat),∃ (base_2:Option Addr),∃ (len_2:Nat),∃ (cap_2:Nat),∃ (base_3:Option Addr),∃ (len_3:Nat),∃ (cap_3:Nat),∃ (b_1:Bool),∃ (base_4:Option Addr),∃ (len_4:Nat),∃ (cap_4:Nat),∃ (base_5:Option Addr),∃ (len_5:Nat),∃ (cap_5:Nat),∃ (base_6:Option Addr),∃ (len_6:Nat),∃ (cap_6:Nat),∃ (n_13:Int),∃ (n_14:Int),∃ (n_15:Int),∃ (n_16:Int),∃ (n_17:Int),∃ (n_18:Int),∃ (n_19:Int),∃ (n_20:Int),∃ (base_7:Option Addr),∃ (len_7:Nat),∃ (cap_7:Nat),∃ (base_8:Option Addr),∃ (len_8:Nat),∃ (cap_8:Nat),∃ (b_2:Bool),LoadE U1.P E 61 (VS b n c) (Int.toNat (WI (Int.fdiv (IntKind.wrap IntKind.u64 (WI ((NI i)+(NI j)))) 2))*(31:Nat)) (SV.agg (I n_1::bcl n_2 n_3 n_4 n_5 n_6 n_7 n_8 n_9 n_10 n_11 n_12 b_1 n_13 n_14 n_15 n_16 n_17 n_18 n_19 n_20 b_2 base len cap base_1 len_1 cap_1 base_2 len_2 cap_2 base_3 len_3 cap_3 base_4 len_4 cap_4 base_5 len_5 cap_5 base_6 len_6 cap_6 base_7 len_7 cap_7 base_8 len_8 cap_8))/\Mem.le E E/\bif decide (WI (n_2-p)<(0:Int)) then Lp U1 8 Try.f37 [(1:Nat),(1:Nat),(1:Nat),(0:Nat),(0:Nat)] (0:Nat) Q { fr:=some (L b n c)::oI p::some (SV.clo 38 [] [])::none::none::none::none::none::oI (NI n)::oI (WI (WI (Int.fdiv (IntKind.wrap IntKind.u64 (WI ((NI i)+(NI j)))) 2)+(1:Int)))::oI (NI j)::no32 (no4 (no2 [])),bx:=[(⟨(61:Nat),Row.lst (I n_1::bcl n_2 n_3 n_4 n_5 n_6 n_7 n_8 n_9 n_10 n_11 n_12 b_1 n_13 n_14 n_15 n_16 n_17 n_18 n_19 n_20 b_2 base len cap base_1 len_1 cap_1 base_2 len_2 cap_2 base_3 len_3 cap_3 base_4 len_4 cap_4 base_5 len_5 cap_5 base_6 len_6 cap_6 base_7 len_7 cap_7 base_8 len_8 cap_8),(31:Nat),true⟩:Box)],E:=E:St } else Lp U1 8 Try.f37 [(1:Nat),(1:Nat),(1:Nat),(0:Nat),(0:Nat)] (0:Nat) Q { fr:=some (L b n c)::oI p::some (SV.clo 38 [] [])::none::none::none::none::none::oI (NI n)::oI (NI i)::oI (WI (Int.fdiv (IntKind.wrap IntKind.u64 (WI ((NI i)+(NI j)))) 2))::no32 (no4 (no2 [])),bx:=[(⟨(61:Nat),Row.lst (I n_1::bcl n_2 n_3 n_4 n_5 n_6 n_7 n_8 n_9 n_10 n_11 n_12 b_1 n_13 n_14 n_15 n_16 n_17 n_18 n_19 n_20 b_2 base len cap base_1 len_1 cap_1 base_2 len_2 cap_2 base_3 len_3 cap_3 base_4 len_4 cap_4 base_5 len_5 cap_5 base_6 len_6 cap_6 base_7 len_7 cap_7 base_8 len_8 cap_8),(31:Nat),true⟩:Box)],E:=E:St }) else bif decide ((NI i)<(NI n)) then req (0<=(NI i)/\(NI i)<(NI n)) ((∃ (cs:List Value),E (VS b n c) cs/\(cs=[]->False))/\∃ (n_1:Int),∃ (n_2:Int),∃ (n_3:Int),∃ (n_4:Int),∃ (n_5:Int),∃ (n_6:Int),∃ (n_7:Int),∃ (n_8:Int),∃ (n_9:Int),∃ (n_10:Int),∃ (n_11:Int),∃ (n_12:Int),∃ (base:Option Addr),∃ (len:Nat),∃ (cap:Nat),∃ (base_1:Option Addr),∃ (len_1:Nat),∃ (cap_1:Nat),∃ (base_2:Option Addr),∃ (len_2:Nat),∃ (cap_2:Nat),∃ (base_3:Option Addr),∃ (len_3:Nat),∃ (cap_3:Nat),∃ (b_1:Bool),∃ (base_4:Option Addr),∃ (len_4:Nat),∃ (cap_4:Nat),∃ (base_5:Option Addr),∃ (len_5:Nat),∃ (cap_5:Nat),∃ (base_6:Option Addr),∃ (len_6:Nat),∃ (cap_6:Nat),∃ (n_13:Int),∃ (n_14:Int),∃ (n_15:Int),∃ (n_16:Int),∃ (n_17:Int),∃ (n_18:Int),∃ (n_19:Int),∃ (n_20:Int),∃ (base_7:Option Addr),∃ (len_7:Nat),∃ (cap_7:Nat),∃ (base_8:Option Addr),∃ (len_8:Nat),∃ (cap_8:Nat),∃ (b_2:Bool),LoadE U1.P E 61 (VS b n c) (Int.toNat (NI i)*(31:Nat)) (SV.agg (I n_1::bcl n_2 n_3 n_4 n_5 n_6 n_7 n_8 n_9 n_10 n_11 n_12 b_1 n_13 n_14 n_15 n_16 n_17 n_18 n_19 n_20 b_2 base len cap base_1 len_1 cap_1 base_2 len_2 cap_2 base_3 len_3 cap_3 base_4 len_4 cap_4 base_5 len_5 cap_5 base_6 len_6 cap_6 base_7 len_7 cap_7 base_8 len_8 cap_8))/\Mem.le E E/\Q (SV.tup [I (NI i),B (bif true then WI (n_2-p)==(0:Int) else false)]) [⟨(61:Nat),Row.lst (I n_1::bcl n_2 n_3 n_4 n_5 n_6 n_7 n_8 n_9 n_10 n_11 n_12 b_1 n_13 n_14 n_15 n_16 n_17 n_18 n_19 n_20 b_2 base len cap base_1 len_1 cap_1 base_2 len_2 cap_2 base_3 len_3 cap_3 base_4 len_4 cap_4 base_5 len_5 cap_5 base_6 len_6 cap_6 base_7 len_7 cap_7 base_8 len_8 cap_8),(31:Nat),true⟩] E) else Q (SV.tup [I (NI i),B false]) [] E)
 delta WI NI VS no2 no4 no32 bcl
 have hl:=h0.len
 obtain ⟨hij,hjn,hlo,hhi⟩:=hi
 have fin:i=j->isPos xs p i:=fun e=>⟨by omega,hlo,fun t x ht=>hhi t x (by omega)⟩
 refine condC (fun g=>?_) (fun g=>condC (fun g2=>?_) (fun g2=>?_))
 ·have g:i<j:=by simpa using g
  rw [wmid (by omega)]
  have w:IntKind.wrap .i64 ((((i+j) / 2:Nat):Int)+1)=(((i+j) / 2+1:Nat):Int):=by rw [wrap_i64 (by omega)];omega
  rw [w]
  obtain ⟨x,hx⟩:∃ x,xs[(i+j) / 2]? =some x:=⟨_,List.getElem?_eq_getElem (by omega)⟩
  obtain ⟨b11,n11,c11,b12,n12,c12,b13,n13,c13,b14,n14,c14,b16,n16,c16,b17,n17,c17,b18,n18,c18,b27,n27,c27,b28,n28,c28,lt,hM⟩:=near_whole h0 hx
  have hf:=(hv _ x hx).1
  refine req_intro (by omega) ⟨SL.ne NearR_ok h0 (show (i+j) / 2<n by omega),x.1,x.2.from_,x.2.asn,x.2.boot,x.2.hops,x.2.bound,x.2.fresh,x.2.seq,x.2.rank,x.2.parent,x.2.first,x.2.next,b11,n11,c11,b12,n12,c12,b13,n13,c13,b14,n14,c14,x.2.full,b16,n16,c16,b17,n17,c17,b18,n18,c18,x.2.nver,x.2.size,x.2.dig,x.2.start,x.2.pages,x.2.version,x.2.page,x.2.seed,b27,n27,c27,b28,n28,c28,x.2.has,lt,mr_,?_⟩
  rw [wrap_i64 (by omega)]
  refine condC (fun q=>?_) (fun q=>?_)
  ·have q:x.2.from_<p:=by simp at q;omega
   exact Lp_re [] (ih ((i+j) / 2+1) j (by omega) (by omega) hjn (fun t y ht hy=>by
    by_cases e:t=(i+j) / 2
    ·subst e;rw [hx] at hy;cases hy;exact q
    ·have:=nb_lt hv (show t<(i+j) / 2 by omega) hy hx;omega) hhi) (wkH mr_)
  ·have q:p<=x.2.from_:=by simp at q;omega
   exact Lp_re [] (ih i ((i+j) / 2) (by omega) (by omega) (by omega) hlo (fun t y ht hy=>by
    by_cases e:t=(i+j) / 2
    ·subst e;rw [hx] at hy;cases hy;exact q
    ·have:=nb_lt hv (show (i+j) / 2<t by omega) hx hy;omega)) (wkH mr_)
 ·have g:i=j:=by simp at g;omega
  have g2:i<n:=by simpa using g2
  obtain ⟨x,hx⟩:∃ x,xs[i]? =some x:=⟨_,List.getElem?_eq_getElem (by omega)⟩
  obtain ⟨b11,n11,c11,b12,n12,c12,b13,n13,c13,b14,n14,c14,b16,n16,c16,b17,n17,c17,b18,n18,c18,b27,n27,c27,b28,n28,c28,lt,hM⟩:=near_whole h0 hx
  have hf:=(hv _ x hx).1
  refine req_intro (by omega) ⟨SL.ne NearR_ok h0 g2,x.1,x.2.from_,x.2.asn,x.2.boot,x.2.hops,x.2.bound,x.2.fresh,x.2.seq,x.2.rank,x.2.parent,x.2.first,x.2.next,b11,n11,c11,b12,n12,c12,b13,n13,c13,b14,n14,c14,x.2.full,b16,n16,c16,b17,n17,c17,b18,n18,c18,x.2.nver,x.2.size,x.2.dig,x.2.start,x.2.pages,x.2.version,x.2.page,x.2.seed,b27,n27,c27,b28,n28,c28,x.2.has,lt,mr_,?_⟩
  rw [wrap_i64 (by omega)]
  exact hQ _ _ (cloK_intro [] (h i (bif true then x.2.from_-p==(0:Int) else false) (fin g) ⟨fun e=>⟨x,hx,by simp at e;omega⟩,fun ⟨y,hy,e⟩=>by rw [hx] at hy;cases hy;simp;omega⟩) (wkH mr_))
 ·have g:i=j:=by simp at g;omega
  have g2:i=n:=by simp at g2;omega
  exact hQ _ _ (cloK_intro [] (h i false (fin g) ⟨fun e=>(by cases e),fun ⟨y,hy,e⟩=>by have:=(List.getElem?_eq_some_iff.1 hy).1;omega⟩) (wkH mr_))
theorem ss37 (h0:SL NearR E b n c xs) (hn:n<=1000000) (hv:nbOK xs) (hp:0<=p/\p<=59)
  (h:∀ (k:Nat) (f:Bool),isPos xs p k->(f=true↔∃ x,xs[k]? =some x/\x.2.from_=p)->KK (.tup [I (k:Nat),B f]) [] E) (hQ:∀ s bx',cloK 0 KK s bx' E->Q s bx' E):EntB U1 8 Try.f37 [L b n c,I p,.clo 38 [] []] [] E Q:=by
 refine sm_ (?_:Lp U1 8 Try.f37 [1,1,1,0,0] 0 Q { fr:=some (L b n c)::oI p::some (SV.clo 38 [] [])::none::none::none::oI 0::oB false::oI (NI n)::oI 0::oI (NI n)::none::oL b n c::oI (NI n)::oI (NI n)::no32 (no2 []),bx:=[],E:=E:St })
 delta NI no2 no32
 have hl:=h0.len
 exact Lp_re [] (Lp_ind okU1 (fun z:{z:Nat×Nat//z.1<=z.2/\z.2<=n/\(∀ (t:Nat) x,t<z.1->xs[t]? =some x->x.2.from_<p)/\(∀ (t:Nat) x,z.2<=t->xs[t]? =some x->p<=x.2.from_)}=>shn37 b n c p z.1.1 z.1.2 E) (fun z=>z.1.2-z.1.1) (fun z ih=>rn37 h0 hn hv hp z.2 h hQ fun i' j' h1 h2 h3 h4 h5=>ih ⟨(i',j'),h2,h3,h4,h5⟩ h1) ⟨(0,n),Nat.zero_le _,Nat.le_refl _,fun t x ht=>absurd ht (Nat.not_lt_zero _),fun t x ht hx=>by have:=(List.getElem?_eq_some_iff.1 hx).1;omega⟩) (wkH mr_)
def okO (o:List Int×Bool):Prop:=∀ z∈o.1,0<=z/\z<=255
theorem okO_num {lo:Int} (hb: -10000000000000<=lo/\hi<=10000000000000) (h:okO o):okO (wnum o v lo hi):=by
 unfold wnum
 split
 ·exact h
 ·rename_i hn
  intro z hz
  rcases List.mem_append.1 hz with h1|h1
  ·exact h z h1
  ·exact dig_byte (by unfold zig;split<;>omega) (by unfold zig;split<;>omega) z h1
theorem okO_uns (h:okO o) (v:Int):okO (wuns o v):=h
theorem okO_dig (h:okO o) (v:Int):okO (wdig o v):=fun z hz=>by
 rcases List.mem_append.1 hz with h1|h1
 ·exact h z h1
 ·exact digB_byte _ z h1
theorem okO_dat (h:okO o) (hz:∀ z∈zs,0<=z/\z<=255) (m:Int):okO (wdat o zs m):=fun z h2=>by
 rcases List.mem_append.1 h2 with h1|h1
 ·exact h z h1
 ·exact hz z h1
def itsOK (its:List Item):Bool:=its.all fun it=>match it.2 with
 | some r=>decide (-10000000000000<=r.1/\r.2<=10000000000000)
 | none=>true
theorem okO_I (x:List Int):∀ (its:List Item) {o:List Int×Bool},itsOK its=true->okO o->okO (its.foldl (wItem x) o)
 | [],o,_,h=>h
 | it::its,o,hi,h=>by
  unfold itsOK at hi
  rw [List.all_cons,Bool.and_eq_true] at hi
  refine okO_I x its hi.2 ?_
  unfold wItem
  obtain ⟨j,r⟩:=it
  cases r with
  | none=>exact okO_uns h _
  | some r=>exact okO_num (by simpa using hi.1) h
theorem okO_F {F:List Int×Bool->List Int->List Int×Bool} (hF:∀ o x,okO o->okO (F o x)):∀ (xs:List (List Int)) {o:List Int×Bool},okO o->okO (xs.foldl F o)
 | [],o,h=>h
 | x::xs,o,h=>okO_F hF xs (hF o x h)
theorem okO_L (hF:∀ o x,okO o->okO (F o x)) (hb: -10000000000000<=(0:Int)/\hi<=10000000000000) (xs:List (List Int)) (h:okO o):okO (wList F hi o xs):=by
 unfold wList
 split
 ·exact okO_num hb h
 ·exact okO_F hF xs (okO_num hb h)
theorem okO_LI {its:List Item} {xs:List (List Int)} (hi':itsOK its=true) (hb:hi<=10000000000000) (h:okO o):okO (wList (weI its) hi o xs):=okO_L (fun o x=>okO_I x its hi') ⟨by decide,hb⟩ xs h
theorem okO_LD {xs:List (List Int)} (hb:hi<=10000000000000) (h:okO o):okO (wList weD hi o xs):=okO_L (fun o x h=>okO_dig h _) ⟨by decide,hb⟩ xs h
theorem okO_A (x:Bc):okO (encA x):=by
 unfold encA
 repeat' first|exact (by decide:itsOK _=true)|apply okO_num (by decide)|apply okO_dig|apply okO_LI (by decide) (by decide)|apply okO_LD (by decide)
 intro z hz;cases hz
theorem enc_byte {x:Bc} (h:∀ z∈x.data,0<=z/\z<=255):∀ z∈(enc x).1,0<=z/\z<=255:=by
 show okO (enc x)
 unfold enc
 split
 ·exact okO_LD (by decide) (okO_dat (okO_num (by decide) (okO_num (by decide) (okO_A x))) h _)
 ·exact okO_uns (okO_uns (okO_uns (okO_A x) _) _) _
def encR (x:Bc):List Int×Int:=if (enc x).2=true then ([],1) else ((enc x).1,0)
def DecP (zs:List Int) (x:Bc) (e:Int):Prop:=∃ y s',DecR zs y s'/\(if s'.2=0 then (if s'.1<zs.length then x=zeroBc/\e=11 else x=y/\e=0) else x=zeroBc/\e=s'.2)
structure EncS (x:Bc) (ys:List Int) (e:Int):Prop where
 eq:encR x=(ys,e)
structure DecS (zs:List Int) (x:Bc) (e:Int):Prop where
 eq:DecP zs x e
structure PosS (xs:List (Int×Bc)) (p:Int) (k:Nat) (f:Bool):Prop where
 pos:isPos xs p k
 fd:f=true↔∃ x,xs[k]? =some x/\x.2.from_=p
structure SLrS (E:Mem) (rs:List (List Value)) (xs:List (Int×Bc)):Prop where
 eq:SLr NearR E rs xs
noncomputable def tabN:CallT:=fun f args bx E K=>match f,args with
 | 37,[v,p,.clo 38 [] []]=>dS v fun b n c=>dI p fun p=>∃ xs,(SL NearR E b n c xs/\n<=1000000/\nbOK xs/\0<=p/\p<=59)/\∀ (k:Nat) (f:Bool),PosS xs p k f->K (.tup [I (k:Nat),B f]) bx E
 | 39,[v]=>dS v fun b n c=>∃ xs,(SL NearR E b n c xs/\n<=1000000)/\∀ (rs:List (List Value)) (cap' tot':Nat),SLrS E rs xs->n<=cap'->cap'*31<=tot'->K (.slc bx.length 0 n cap') (bx++[⟨61,.vals rs.flatten,tot',true⟩]) E
 | 40,[.slc b 0 n cap,x,.slc b2 0 1 1]=>dI x fun i=>∃ (k:Nat) (vs:List Value) (tot:Nat) (rv:List Value),(i=(k:Int)/\bx[b]? =some ⟨61,.vals vs,tot,true⟩/\bx[b2]? =some ⟨61,.lst (rv.map .raw),31,true⟩/\(b=b2->False)/\rv.length=31/\(∀ x:Value,List.Mem x rv->x.oneCell'=true)/\n*31=vs.length/\(∀ x:Value,List.Mem x vs->x.oneCell'=true)/\(n<=cap/\cap*31<=tot)/\k<=n/\n<=1000000)/\
   ∀ cap' tot':Nat,n+1<=cap'->cap'*31<=tot'->K (.slc bx.length 0 (n+1) cap') (bx.set b deadN++[⟨61,.vals (insV vs k rv),tot',true⟩]) E
 | _,_=>False
theorem tabN_ok:∀ f args bx E K,tabN f args bx E K->CallSem Try.prog f args bx E K:=by
 intro f args bx E K h
 unfold tabN at h
 split at h
 ·obtain ⟨b,n,c,rfl,h2⟩:=dS_elim h
  obtain ⟨p,rfl,xs,⟨hx,hn,hv,hp⟩,hk⟩:=dI_elim h2
  refine CallSem.hand (σ:=[]) (bxs:=[]) (args':=[L b n c,I p,.clo 38 [] []]) ⟨by simp,rfl,fun i b h=>by simp at h⟩ (by simp [SV.renL,SV.ren]) (bsm okU1 Try.func37 (ss37 hx hn hv hp (fun k f h1 h2=>?_) (fun _ _ q=>q)))
  have:=hk k f ⟨h1,h2⟩
  simpa [merge,setAll,SV.ren,renF,Box.ren,Row.ren,SV.renL] using this
 ·obtain ⟨b,n,c,rfl,xs,⟨hx,hn⟩,hk⟩:=dS_elim h
  exact cln39 hx hn fun rs cap' tot' h1=>hk rs cap' tot' ⟨h1⟩
 ·obtain ⟨i,rfl,k,vs,tot,rv,⟨rfl,h1,h2,h3,h4,h5,h6,h7,h8,h9,h10⟩,hk⟩:=dI_elim h
  exact ins40 h1 h2 (fun i v hi=>by show (rv.map SV.raw)[i]? =_;rw [List.getElem?_map,hi];rfl) (by show (rv.map SV.raw).length=_;rw [List.length_map,h4]) h4 h3 h5 h6 h7 h8 h9 h10 hk
 ·exact h.elim
noncomputable def tab36:FuncId->List SV->Mem->(SV->Mem->Prop)->Prop:=fun f args E K=>match f with
 | 36=>d1 args fun x0=>dS x0 fun b n c=>∃ xs,(SL NearR E b n c xs/\n<=9223372036854775807)/\∀ v:Bool,(v=true↔nbOK xs)->K (B v) E
 | 12=>d1 args fun v=>∃ x:Bc,(BcV E v x/\BcSm x)/\∀ (ys:List Int) (e:Int) (b:Option Addr) (n c:Nat) (E':Mem),Mem.le E E'->EncS x ys e->Bs E' b n c ys->K (.tup [L b n c,I e]) E'
 | _=>False
theorem tab36_ok:TabOK Try.prog tab36:=by
 intro f args E K h
 unfold tab36 at h
 split at h
 ·obtain ⟨x0,rfl,h1⟩:=d1_elim h
  obtain ⟨b,n,c,rfl,xs,⟨hx,hn⟩,hk⟩:=dS_elim h1
  exact esm okU0 Try.func36 rfl (ss36 hx hn hk)
 ·obtain ⟨v,rfl,x,⟨hv,hs⟩,hk⟩:=d1_elim h
  obtain ⟨b11,n11,c11,b12,n12,c12,b13,n13,c13,b14,n14,c14,b16,n16,c16,b17,n17,c17,b18,n18,c18,b27,n27,c27,b28,n28,c28,rfl,M⟩:=hv.ex
  have l27:=hs.l27
  have l28:=hs.l28
  have p27:=M.h27.2.1
  have p28:=M.h28.len
  refine esm okY4 Try.func12 rfl (p12 M.h11 M.h12 M.h13 M.h14 M.h16 M.h17 M.h18 M.h27 M.h28 (by omega) (by omega) (fun o n' cap' tot' hq hW=>?_))
  have hq:enc x=o:=hq
  split
  ·rename_i ho
   exact hk [] 1 none 0 0 E mr_ ⟨by unfold encR;rw [hq,if_pos ho]⟩ (Bs.nil _)
  ·rename_i ho
   intro base E' h3 h4
   exact hk o.1 0 (base.map fun y=>y.add 0) n' cap' E' h3 ⟨by unfold encR;rw [hq,if_neg ho]⟩ (Bs.win h4 rfl hW.len hW.nc (by have:=enc_byte (x:=x) M.h27.2.2.2.1;rwa [hq] at this))
 ·exact h.elim
noncomputable def U2:Cx:={ P:=Try.prog,inl:=fun f=>List.contains [] f,tab:=tab36,isB:=fun f=>f==37||f==39||f==40,tabB:=tabN,opt:={ unroll:=0,carry:=[] },muts:=mutsD }
theorem okU2:CxOK U2:=CxOK.four tab36_ok (by kernel_rfl) (okInl (by kernel_rfl)) tabN_ok
def posN (xs:List (Int×Bc)) (p:Int):Nat:=(xs.takeWhile fun x=>decide (x.2.from_<p)).length
theorem isPos_eq:∀ {xs:List (Int×Bc)} {p:Int} {k:Nat},isPos xs p k->posN xs p=k
 | [],p,k,h=>by have:=h.1;simp at this;subst this;rfl
 | x::xs,p,0,h=>by
  have:=h.2.2 0 x (Nat.le_refl _) rfl
  unfold posN
  rw [List.takeWhile_cons_of_neg (by simp;omega)];rfl
 | x::xs,p,k+1,h=>by
  have h1:=h.2.1 0 x (Nat.succ_pos _) rfl
  have h2:isPos xs p k:=⟨by have:=h.1;simp at this;omega,fun t y ht hy=>h.2.1 (t+1) y (by omega) (by simpa using hy),fun t y ht hy=>h.2.2 (t+1) y (by omega) (by simpa using hy)⟩
  have:=isPos_eq h2
  unfold posN at this ⊢
  rw [List.takeWhile_cons_of_pos (by simpa using h1),List.length_cons,this]
def noteF (xs:List (Int×Bc)) (x:Bc) (fr:Int):List (Int×Bc)×Int:=match xs[posN xs x.from_]? with
 | some y=>if y.2.from_=x.from_ then (if y.1>fr then ([],14) else (xs.set (posN xs x.from_) (fr,x),0)) else (xs.take (posN xs x.from_)++(fr,x)::xs.drop (posN xs x.from_),0)
 | none=>(xs.take (posN xs x.from_)++(fr,x)::xs.drop (posN xs x.from_),0)
structure NoteS (xs:List (Int×Bc)) (x:Bc) (fr:Int) (ys:List (Int×Bc)) (e:Int):Prop where
 eq:((enc x).2=false/\nbOK xs/\0<=fr/\fr<=1000000000->noteF xs x fr=(ys,e))/\(¬ ((enc x).2=false/\nbOK xs/\0<=fr/\fr<=1000000000)->ys=[]/\e=1)
theorem SLr_insN {R:RowR α} {xs:List α} {x:α} (ok:RowOK 31 R) (h:SLr R E rs xs) (q:R E x rv) (k:Nat):
  insV rs.flatten k rv=(rs.take k++rv::rs.drop k).flatten/\SLr R E (rs.take k++rv::rs.drop k) (xs.take k++x::xs.drop k):=by
 refine ⟨?_,(h.take k).app ((SLr.one q).app (h.drop k))⟩
 unfold insV
 rw [flat_take (h.lens ok),flat_drop (h.lens ok)]
 simp
theorem good_num {lo:Int} (h:(wnum o v lo hi).2=false):o.2=false/\lo<=v/\v<=hi:=by
 unfold wnum at h
 split at h
 ·cases h
 ·rename_i q
  cases e:o.2 with
  | false=>rw [e] at q;refine ⟨rfl,?_,?_⟩<;>omega
  | true=>rw [e] at q;exact absurd (Or.inr (Or.inr rfl)) q
theorem good_uns (h:(wuns o v).2=false):o.2=false/\v=0:=by
 unfold wuns at h
 simpa using h
theorem good_dat {m:Int} (h:(wdat o zs m).2=false):o.2=false/\(zs.length:Int)=m:=by
 unfold wdat at h
 simpa using h
theorem good_fold {F:List Int×Bool->List Int->List Int×Bool} (hF:∀ o x,(F o x).2=false->o.2=false):∀ (xs:List (List Int)) {o:List Int×Bool},(xs.foldl F o).2=false->o.2=false
 | [],o,h=>h
 | x::xs,o,h=>hF o x (good_fold hF xs h)
theorem good_I (x:List Int):∀ (its:List Item) {o:List Int×Bool},(its.foldl (wItem x) o).2=false->o.2=false
 | [],o,h=>h
 | it::its,o,h=>by
  have:=good_I x its h
  unfold wItem at this
  split at this
  ·exact (good_num this).1
  ·exact (good_uns this).1
theorem good_L (hF:∀ o x,(F o x).2=false->o.2=false) {xs:List (List Int)} (h:(wList F hi o xs).2=false):o.2=false:=by
 unfold wList at h
 split at h
 ·exact (good_num h).1
 ·exact (good_num (good_fold hF xs h)).1
theorem good_LI {its:List Item} {xs:List (List Int)} (h:(wList (weI its) hi o xs).2=false):o.2=false:=good_L (fun o x=>good_I x its) h
theorem good_LD {xs:List (List Int)} (h:(wList weD hi o xs).2=false):o.2=false:=good_L (F:=weD) (fun o x h=>h) h
theorem good_dig {d:Int} (h:(wdig o d).2=false):o.2=false:=h
theorem enc_A {x:Bc} (h:(enc x).2=false):(encA x).2=false:=by
 unfold enc at h
 split at h
 ·exact (good_num (good_num (good_dat (good_LD h)).1).1).1
 ·exact (good_uns (good_uns (good_uns h).1).1).1
theorem enc_from {x:Bc} (h:(enc x).2=false):0<=x.from_/\x.from_<=59:=by
 have h:=enc_A h
 unfold encA at h
 replace h:=(good_num h).1
 replace h:=(good_num h).1
 replace h:=(good_num h).1
 replace h:=(good_num h).1
 replace h:=good_dig h
 replace h:=(good_num h).1
 replace h:=(good_num h).1
 replace h:=good_LI h
 replace h:=good_LI h
 replace h:=good_LI h
 replace h:=(good_num h).1
 replace h:=good_LI h
 replace h:=good_LI h
 replace h:=good_LI h
 replace h:=good_LI h
 replace h:=(good_num h).1
 replace h:=(good_num h).1
 replace h:=(good_num h).1
 replace h:=(good_num h).1
 replace h:=(good_num h).1
 replace h:=(good_num h).1
 replace h:=(good_num h).1
 replace h:=(good_num h).1
 replace h:=(good_num h).1
 replace h:=(good_num h).1
 replace h:=good_num h
 exact h.2
theorem ss18 {dig:Int} {nn11:Nat} {nn12:Nat} (h0:SL NearR E b n c xs) (hn:n<=1000000) (hM:BcM E ⟨from_,asn,boot,hops,bound,fresh,seq,rank,parent,first,next,uses,grants,asks,below,full,words,mail,got,nver,size,dig,start,pages,version,page,seed,data,proof,has⟩ b11 nn11 c11 b12 nn12 c12 b13 n13 c13 b14 n14 c14 b16 n16 c16 b17 n17 c17 b18 n18 c18 b27 n27 c27 b28 n28 c28) (hs:BcSm ⟨from_,asn,boot,hops,bound,fresh,seq,rank,parent,first,next,uses,grants,asks,below,full,words,mail,got,nver,size,dig,start,pages,version,page,seed,data,proof,has⟩)
  (h:∀ (ys:List (Int×Bc)) (e:Int) (b':Option Addr) (n' c':Nat) (E':Mem),Mem.le E E'->NoteS xs ⟨from_,asn,boot,hops,bound,fresh,seq,rank,parent,first,next,uses,grants,asks,below,full,words,mail,got,nver,size,dig,start,pages,version,page,seed,data,proof,has⟩ fr ys e->SL NearR E' b' n' c' ys->K (.tup [L b' n' c',I e]) E'):Ent U2 8 Try.f18 [L b n c,.agg [I from_,I asn,I boot,I hops,I bound,I fresh,I seq,I rank,I parent,I first,I next,L b11 nn11 c11,L b12 nn12 c12,L b13 n13 c13,L b14 n14 c14,B full,L b16 n16 c16,L b17 n17 c17,L b18 n18 c18,I nver,I size,.raw (.int .u64 dig),I start,I pages,I version,I page,I seed,L b27 n27 c27,L b28 n28 c28,B has],I fr] E K:=by
 refine sm_ (?_:∃ (x:Bc),(BcV E (SV.agg (bcl from_ asn boot hops bound fresh seq rank parent first next full nver size dig start pages version page seed has b11 nn11 c11 b12 nn12 c12 b13 n13 c13 b14 n14 c14 b16 n16 c16 b17 n17 c17 b18 n18 c18 b27 n27 c27 b28 n28 c28)) x/\BcSm x)/\∀ (ys:List Int) (e:Int) (b_1:Option Addr) (n_1 c_1:Nat) (E':Mem),Mem.le E E'->EncS x ys e->Bs E' b_1 n_1 c_1 ys->Mem.le E E'/\bif e !=(0:Int) then Mem.le E E'/\K (SV.tup [L none 0 0,I 1]) E' else ∃ (xs:List (Int×Bc)),(SL NearR E' b n c xs/\n<=9223372036854775807)/\∀ (v:Bool),(v=true↔nbOK xs)->Mem.le E' E'/\bif bif false then true else !v then Mem.le E E'/\K (SV.tup [L none 0 0,I 1]) E' else bif bif false then true else decide (fr<(0:Int)) then Mem.le E E'/\K (SV.tup [L none 0 0,I 1]) E' else bif bif false then true else decide (fr>(1000000000:Int)) then Mem.le E E'/\K (SV.tup [L none 0 0,I 1]) E' else ∃ (xs:List (Int×Bc)),(SL NearR E' b n c xs/\n<=1000000/\nbOK xs/\(0:Int)<=from_/\from_<=(59:Int))/\∀ (k:Nat) (f:Bool),PosS xs from_ k f->∃ (xs:List (Int×Bc)),(SL NearR E' b n c xs/\n<=1000000)/\∀ (rs:List (List Value)) (cap' tot':Nat),SLrS E' rs xs->n<=cap'->cap'*31<=tot'->Mem.le E' E'/\bif f then req (0<=(NI k)/\(NI k)<(NI n)) ((∃ (cs:List Value),E' (VS b n c) cs/\(cs=[]->False))/\∃ (n_2:Int),LoadE U2.P E' 3 (VS b n c) (Int.toNat (NI k)*31+0) (I n_2)/\bif bif true then decide (n_2>fr) else false then Mem.le E E'/\K (SV.tup [L none 0 0,I 14]) E' else bif f then req (0<=(NI k)/\(NI k)<(NI n)) (0+Int.toNat (NI k)*31+31<=List.length (List.flatten rs)/\∀ (base:Option Addr) (E'_1:Mem),Mem.le E' E'_1->WinE E'_1 base (layV (List.flatten rs) (0+Int.toNat (NI k)*31) [Value.int IntKind.i64 fr,Value.int IntKind.i64 from_,Value.int IntKind.i64 asn,Value.int IntKind.i64 boot,Value.int IntKind.i64 hops,Value.int IntKind.i64 bound,Value.int IntKind.i64 fresh,Value.int IntKind.i64 seq,Value.int IntKind.i64 rank,Value.int IntKind.i64 parent,Value.int IntKind.i64 first,Value.int IntKind.i64 next,VS b11 nn11 c11,VS b12 nn12 c12,VS b13 n13 c13,VS b14 n14 c14,Value.bool full,VS b16 n16 c16,VS b17 n17 c17,VS b18 n18 c18,Value.int IntKind.i64 nver,Value.int IntKind.i64 size,Value.int IntKind.u64 dig,Value.int IntKind.i64 start,Value.int IntKind.i64 pages,Value.int IntKind.i64 version,Value.int IntKind.i64 page,Value.int IntKind.i64 seed,VS b27 n27 c27,VS b28 n28 c28,Value.bool has])->Mem.le E E'_1/\K (SV.tup [L (Option.map (fun (x:Addr)=>Addr.add x 0) base) n cap',I 0]) E'_1) else ∃ (k_1:Nat),∃ (vs:List Value),∃ (tot:Nat),∃ (rv:List Value),((NI k)=(NI k_1)/\some (⟨61,.vals (List.flatten rs),tot',true⟩:Box)=some (⟨61,.vals vs,tot,true⟩:Box)/\some (⟨61,.lst (I fr::bcl from_ asn boot hops bound fresh seq rank parent first next full nver size dig start pages version page seed has b11 nn11 c11 b12 nn12 c12 b13 n13 c13 b14 n14 c14 b16 n16 c16 b17 n17 c17 b18 n18 c18 b27 n27 c27 b28 n28 c28),31,true⟩:Box)=some (⟨61,.lst (List.map SV.raw rv),31,true⟩:Box)/\(1=3->False)/\List.length rv=31/\(∀ (x:Value),List.Mem x rv->Value.oneCell' x=true)/\n*31=List.length vs/\(∀ (x:Value),List.Mem x vs->Value.oneCell' x=true)/\(n<=cap'/\cap'*31<=tot)/\k_1<=n/\n<=1000000)/\∀ (cap' tot':Nat),n+1<=cap'->cap'*31<=tot'->∀ (base:Option Addr) (E'_1:Mem),Mem.le E' E'_1->WinE E'_1 base (insV vs k_1 rv)->Mem.le E E'_1/\K (SV.tup [L (Option.map (fun (x:Addr)=>Addr.add x 0) base) (n+1) cap',I 0]) E'_1) else bif f then req (0<=(NI k)/\(NI k)<(NI n)) (0+Int.toNat (NI k)*31+31<=List.length (List.flatten rs)/\∀ (base:Option Addr) (E'_1:Mem),Mem.le E' E'_1->WinE E'_1 base (layV (List.flatten rs) (0+Int.toNat (NI k)*31) [Value.int IntKind.i64 fr,Value.int IntKind.i64 from_,Value.int IntKind.i64 asn,Value.int IntKind.i64 boot,Value.int IntKind.i64 hops,Value.int IntKind.i64 bound,Value.int IntKind.i64 fresh,Value.int IntKind.i64 seq,Value.int IntKind.i64 rank,Value.int IntKind.i64 parent,Value.int IntKind.i64 first,Value.int IntKind.i64 next,VS b11 nn11 c11,VS b12 nn12 c12,VS b13 n13 c13,VS b14 n14 c14,Value.bool full,VS b16 n16 c16,VS b17 n17 c17,VS b18 n18 c18,Value.int IntKind.i64 nver,Value.int IntKind.i64 size,Value.int IntKind.u64 dig,Value.int IntKind.i64 start,Value.int IntKind.i64 pages,Value.int IntKind.i64 version,Value.int IntKind.i64 page,Value.int IntKind.i64 seed,VS b27 n27 c27,VS b28 n28 c28,Value.bool has])->Mem.le E E'_1/\K (SV.tup [L (Option.map (fun (x:Addr)=>Addr.add x 0) base) n cap',I 0]) E'_1) else ∃ (k_1:Nat),∃ (vs:List Value),∃ (tot:Nat),∃ (rv:List Value),((NI k)=(NI k_1)/\some (⟨61,.vals (List.flatten rs),tot',true⟩:Box)=some (⟨61,.vals vs,tot,true⟩:Box)/\some (⟨61,.lst (I fr::bcl from_ asn boot hops bound fresh seq rank parent first next full nver size dig start pages version page seed has b11 nn11 c11 b12 nn12 c12 b13 n13 c13 b14 n14 c14 b16 n16 c16 b17 n17 c17 b18 n18 c18 b27 n27 c27 b28 n28 c28),31,true⟩:Box)=some (⟨61,.lst (List.map SV.raw rv),31,true⟩:Box)/\(1=3->False)/\List.length rv=31/\(∀ (x:Value),List.Mem x rv->Value.oneCell' x=true)/\n*31=List.length vs/\(∀ (x:Value),List.Mem x vs->Value.oneCell' x=true)/\(n<=cap'/\cap'*31<=tot)/\k_1<=n/\n<=1000000)/\∀ (cap' tot':Nat),n+1<=cap'->cap'*31<=tot'->∀ (base:Option Addr) (E'_1:Mem),Mem.le E' E'_1->WinE E'_1 base (insV vs k_1 rv)->Mem.le E E'_1/\K (SV.tup [L (Option.map (fun (x:Addr)=>Addr.add x 0) base) (n+1) cap',I 0]) E'_1)
 delta NI VS bcl
 have hl:=h0.len
 refine ⟨⟨from_,asn,boot,hops,bound,fresh,seq,rank,parent,first,next,uses,grants,asks,below,full,words,mail,got,nver,size,dig,start,pages,version,page,seed,data,proof,has⟩,⟨⟨b11,nn11,c11,b12,nn12,c12,b13,n13,c13,b14,n14,c14,b16,n16,c16,b17,n17,c17,b18,n18,c18,b27,n27,c27,b28,n28,c28,rfl,hM⟩,hs⟩,fun zs e b1 n1 c1 E1 hE1 hq hB=>⟨hE1,?_⟩⟩
 have hq:encR ⟨from_,asn,boot,hops,bound,fresh,seq,rank,parent,first,next,uses,grants,asks,below,full,words,mail,got,nver,size,dig,start,pages,version,page,seed,data,proof,has⟩=(zs,e):=hq.eq
 have no:∀ E2,Mem.le E E2->¬ ((enc ⟨from_,asn,boot,hops,bound,fresh,seq,rank,parent,first,next,uses,grants,asks,below,full,words,mail,got,nver,size,dig,start,pages,version,page,seed,data,proof,has⟩).2=false/\nbOK xs/\0<=fr/\fr<=1000000000)->Mem.le E E2/\K (.tup [L none 0 0,I 1]) E2:=fun E2 hE2 q=>⟨hE2,h [] 1 none 0 0 E2 hE2 ⟨fun w=>absurd w q,fun _=>⟨rfl,rfl⟩⟩ SL.nil⟩
 refine condC (fun g=>no E1 hE1 (fun w=>by unfold encR at hq;rw [if_neg (by rw [w.1];exact Bool.false_ne_true)] at hq;simp only [Prod.mk.injEq] at hq;simp at g;exact g hq.2.symm)) (fun g=>?_)
 have ok:(enc ⟨from_,asn,boot,hops,bound,fresh,seq,rank,parent,first,next,uses,grants,asks,below,full,words,mail,got,nver,size,dig,start,pages,version,page,seed,data,proof,has⟩).2=false:=by
  cases q:(enc ⟨from_,asn,boot,hops,bound,fresh,seq,rank,parent,first,next,uses,grants,asks,below,full,words,mail,got,nver,size,dig,start,pages,version,page,seed,data,proof,has⟩).2 with
  | false=>rfl
  | true=>unfold encR at hq;rw [if_pos q] at hq;simp only [Prod.mk.injEq] at hq;simp at g;omega
 have hf:0<=from_/\from_<=59:=enc_from ok
 have h1:=h0.mono NearR_ok hE1
 refine ⟨xs,⟨h1,by omega⟩,fun v hv=>⟨mr_,condC (fun g1=>no E1 hE1 (fun w=>by have:=hv.2 w.2.1;rw [this] at g1;simp at g1)) (fun g1=>condC (fun g2=>no E1 hE1 (fun w=>by simp at g2;omega)) (fun g2=>condC (fun g3=>no E1 hE1 (fun w=>by simp at g3;omega)) (fun g3=>?_)))⟩⟩
 have nb:nbOK xs:=hv.1 (by simpa using g1)
 have all:(enc ⟨from_,asn,boot,hops,bound,fresh,seq,rank,parent,first,next,uses,grants,asks,below,full,words,mail,got,nver,size,dig,start,pages,version,page,seed,data,proof,has⟩).2=false/\nbOK xs/\0<=fr/\fr<=1000000000:=⟨ok,nb,by simp at g2;omega,by simp at g3;omega⟩
 have yes:∀ {ys:List (Int×Bc)} {e:Int},noteF xs ⟨from_,asn,boot,hops,bound,fresh,seq,rank,parent,first,next,uses,grants,asks,below,full,words,mail,got,nver,size,dig,start,pages,version,page,seed,data,proof,has⟩ fr=(ys,e)->NoteS xs ⟨from_,asn,boot,hops,bound,fresh,seq,rank,parent,first,next,uses,grants,asks,below,full,words,mail,got,nver,size,dig,start,pages,version,page,seed,data,proof,has⟩ fr ys e:=fun q=>⟨fun _=>q,fun w=>absurd all w⟩
 refine ⟨xs,⟨h1,hn,nb,hf⟩,fun k f hk=>⟨xs,⟨h1,hn⟩,fun rs cap' tot' hr c1 c2=>⟨mr_,?_⟩⟩⟩
 have hp:=hk.pos
 have hr:=hr.eq
 have pe:posN xs from_=k:=isPos_eq hp
 have fl:=hr.flat NearR_ok
 have hx:∀ E2,Mem.le E E2->NearR E2 ((fr,⟨from_,asn,boot,hops,bound,fresh,seq,rank,parent,first,next,uses,grants,asks,below,full,words,mail,got,nver,size,dig,start,pages,version,page,seed,data,proof,has⟩):Int×Bc) [.int .i64 fr,.int .i64 from_,.int .i64 asn,.int .i64 boot,.int .i64 hops,.int .i64 bound,.int .i64 fresh,.int .i64 seq,.int .i64 rank,.int .i64 parent,.int .i64 first,.int .i64 next,.slice b11 nn11 c11,.slice b12 nn12 c12,.slice b13 n13 c13,.slice b14 n14 c14,.bool full,.slice b16 n16 c16,.slice b17 n17 c17,.slice b18 n18 c18,.int .i64 nver,.int .i64 size,.int .u64 dig,.int .i64 start,.int .i64 pages,.int .i64 version,.int .i64 page,.int .i64 seed,.slice b27 n27 c27,.slice b28 n28 c28,.bool has]:=fun E2 h2=>⟨b11,nn11,c11,b12,nn12,c12,b13,n13,c13,b14,n14,c14,b16,n16,c16,b17,n17,c17,b18,n18,c18,b27,n27,c27,b28,n28,c28,rfl,hM.mono h2⟩
 have ins:f=false->∀ (cap2 tot2:Nat),n+1<=cap2->cap2*31<=tot2->∀ (base:Option Addr) (E2:Mem),Mem.le E1 E2->WinE E2 base (insV rs.flatten k [.int .i64 fr,.int .i64 from_,.int .i64 asn,.int .i64 boot,.int .i64 hops,.int .i64 bound,.int .i64 fresh,.int .i64 seq,.int .i64 rank,.int .i64 parent,.int .i64 first,.int .i64 next,.slice b11 nn11 c11,.slice b12 nn12 c12,.slice b13 n13 c13,.slice b14 n14 c14,.bool full,.slice b16 n16 c16,.slice b17 n17 c17,.slice b18 n18 c18,.int .i64 nver,.int .i64 size,.int .u64 dig,.int .i64 start,.int .i64 pages,.int .i64 version,.int .i64 page,.int .i64 seed,.slice b27 n27 c27,.slice b28 n28 c28,.bool has])->Mem.le E E2/\K (.tup [.raw (.slice (base.map fun y=>y.add 0) (n+1) cap2),I 0]) E2:=fun gf cap2 tot2 c3 c4 base E2 h3 h4=>by
  refine ⟨mt_ hE1 h3,h (xs.take k++(fr,⟨from_,asn,boot,hops,bound,fresh,seq,rank,parent,first,next,uses,grants,asks,below,full,words,mail,got,nver,size,dig,start,pages,version,page,seed,data,proof,has⟩)::xs.drop k) 0 _ (n+1) cap2 E2 (mt_ hE1 h3) (yes ?_) ?_⟩
  ·unfold noteF
   rw [show posN xs (Bc.from_ ⟨from_,asn,boot,hops,bound,fresh,seq,rank,parent,first,next,uses,grants,asks,below,full,words,mail,got,nver,size,dig,start,pages,version,page,seed,data,proof,has⟩)=k from pe]
   have :∀ y,xs[k]? =some y->¬ y.2.from_=from_:=fun y hy q=>by have:=hk.fd.2 ⟨y,hy,q⟩;rw [gf] at this;cases this
   cases q:xs[k]? with
   | none=>rfl
   | some y=>simp only;rw [if_neg (this y q)]
  ·obtain ⟨e1,e2⟩:=SLr_insN NearR_ok (hr.mono NearR_ok h3) (hx E2 (mt_ hE1 h3)) k
   exact SL.win NearR_ok h4 e1 e2 (by simp;have:=hp.1;omega) c3
 refine condC (fun gf=>?_) (fun gf=>condC (fun q=>absurd q (by rw [gf];exact Bool.false_ne_true)) (fun _=>?_))
 ·obtain ⟨y,hy,ey⟩:=hk.fd.1 gf
  have kn:k<n:=by have:=(List.getElem?_eq_some_iff.1 hy).1;omega
  refine req_intro (by omega) ⟨SL.ne NearR_ok h1 kn,y.1,near_frame h1 hy,condC (fun g4=>⟨hE1,h [] 14 none 0 0 E1 hE1 (yes ?_) SL.nil⟩) (fun g4=>condC (fun _=>?_) (fun q=>absurd gf (by rw [q];exact Bool.false_ne_true)))⟩
  ·have g4:y.1>fr:=by simpa using g4
   unfold noteF
   rw [show posN xs (Bc.from_ ⟨from_,asn,boot,hops,bound,fresh,seq,rank,parent,first,next,uses,grants,asks,below,full,words,mail,got,nver,size,dig,start,pages,version,page,seed,data,proof,has⟩)=k from pe,hy];simp only
   rw [if_pos ey,if_pos g4]
  ·have g4:¬ y.1>fr:=by simp at g4;omega
   rw [show 0+Int.toNat (k:Int)*31=k*31 by rw [Int.toNat_natCast];omega]
   refine req_intro (by omega) ⟨by rw [fl];omega,fun base E2 h3 h4=>⟨mt_ hE1 h3,h (xs.set k (fr,⟨from_,asn,boot,hops,bound,fresh,seq,rank,parent,first,next,uses,grants,asks,below,full,words,mail,got,nver,size,dig,start,pages,version,page,seed,data,proof,has⟩)) 0 _ n cap' E2 (mt_ hE1 h3) (yes ?_) ?_⟩⟩
   ·unfold noteF
    rw [show posN xs (Bc.from_ ⟨from_,asn,boot,hops,bound,fresh,seq,rank,parent,first,next,uses,grants,asks,below,full,words,mail,got,nver,size,dig,start,pages,version,page,seed,data,proof,has⟩)=k from pe,hy];simp only
    rw [if_pos ey,if_neg g4]
   ·exact SL.win NearR_ok h4 (layV_row (hr.lens NearR_ok) (by rw [hr.1];omega) rfl) ((hr.mono NearR_ok h3).set k (hx E2 (mt_ hE1 h3))) (by rw [List.length_set,hl]) c1
 ·refine ⟨k,rs.flatten,tot',[.int .i64 fr,.int .i64 from_,.int .i64 asn,.int .i64 boot,.int .i64 hops,.int .i64 bound,.int .i64 fresh,.int .i64 seq,.int .i64 rank,.int .i64 parent,.int .i64 first,.int .i64 next,.slice b11 nn11 c11,.slice b12 nn12 c12,.slice b13 n13 c13,.slice b14 n14 c14,.bool full,.slice b16 n16 c16,.slice b17 n17 c17,.slice b18 n18 c18,.int .i64 nver,.int .i64 size,.int .u64 dig,.int .i64 start,.int .i64 pages,.int .i64 version,.int .i64 page,.int .i64 seed,.slice b27 n27 c27,.slice b28 n28 c28,.bool has],⟨rfl,rfl,rfl,by decide,rfl,NearR_ok.one (hx E mr_),by rw [fl,hl],hr.ones NearR_ok,⟨c1,c2⟩,by have:=hp.1;omega,hn⟩,fun cap2 tot2 c3 c4 base E2 h3 h4=>ins gf cap2 tot2 c3 c4 base E2 h3 h4⟩
noncomputable def T0:Cx:={ P:=Try.prog,inl:=fun f=>List.contains [42] f,tab:=fun _ _ _ _=>False,isB:=fun _=>false,tabB:=fun _ _ _ _ _=>False,opt:={ unroll:=0,carry:=[8] },muts:=mutsD }
theorem okT0:CxOK T0:=CxOK.four (fun _ _ _ _ h=>h.elim) (by kernel_rfl) (okInl (by kernel_rfl)) (fun _ _ _ _ _ h=>h.elim)
def oldN (fr:Int) (x:Int×Bc):Bool:=decide (0<=fr)&&(decide (fr<=1000000000)&&decide (x.1<fr-3))
def idxF (fr:Int) (xs:List (Int×Bc)):Int:=match xs.findIdx? (oldN fr) with
 | some i=>(i:Int)
 | none=> -1
theorem idxF_at (hx:xs[i]? =some x) (hp:oldN fr x=true) (h:∀ (j:Nat) x,j<i->xs[j]? =some x->oldN fr x=false):idxF fr xs=i:=by
 unfold idxF
 have :xs.findIdx? (oldN fr)=some i:=by
  rw [List.findIdx?_eq_some_iff_getElem]
  obtain ⟨hi,e⟩:=List.getElem?_eq_some_iff.1 hx
  exact ⟨hi,by rw [e];exact hp,fun j hj=>by simpa using h j _ hj (List.getElem?_eq_getElem (by omega))⟩
 rw [this]
theorem idxF_no (h:∀ (j:Nat) x,xs[j]? =some x->oldN fr x=false):idxF fr xs= -1:=by
 unfold idxF
 have :xs.findIdx? (oldN fr)=none:=by
  rw [List.findIdx?_eq_none_iff]
  intro x hx
  obtain ⟨j,hj,rfl⟩:=List.getElem_of_mem hx
  exact h j _ (List.getElem?_eq_getElem hj)
 rw [this]
theorem near_V (h:SLr NearR E rs xs) (hx:xs[i]? =some x):
  ∃ b11 n11 c11 b12 n12 c12 b13 n13 c13 b14 n14 c14 b16 n16 c16 b17 n17 c17 b18 n18 c18 b27 n27 c27 b28 n28 c28,LoadV Try.prog 61 rs.flatten (i*31) (.agg (I x.1::[I x.2.from_,I x.2.asn,I x.2.boot,I x.2.hops,I x.2.bound,I x.2.fresh,I x.2.seq,I x.2.rank,I x.2.parent,I x.2.first,I x.2.next,L b11 n11 c11,L b12 n12 c12,L b13 n13 c13,L b14 n14 c14,B x.2.full,L b16 n16 c16,L b17 n17 c17,L b18 n18 c18,I x.2.nver,I x.2.size,.raw (.int .u64 x.2.dig),I x.2.start,I x.2.pages,I x.2.version,I x.2.page,I x.2.seed,L b27 n27 c27,L b28 n28 c28,B x.2.has]))/\BcM E x.2 b11 n11 c11 b12 n12 c12 b13 n13 c13 b14 n14 c14 b16 n16 c16 b17 n17 c17 b18 n18 c18 b27 n27 c27 b28 n28 c28:=by
 obtain ⟨r,h1,⟨b11,n11,c11,b12,n12,c12,b13,n13,c13,b14,n14,c14,b16,n16,c16,b17,n17,c17,b18,n18,c18,b27,n27,c27,b28,n28,c28,e,hM⟩,h3⟩:=h.get NearR_ok hx
 subst e
 exact ⟨b11,n11,c11,b12,n12,c12,b13,n13,c13,b14,n14,c14,b16,n16,c16,b17,n17,c17,b18,n18,c18,b27,n27,c27,b28,n28,c28,loadV_row (P:=Try.prog) (T:=61) rfl rfl h3 rfl,hM⟩
def sh72 (m cap tot:Nat) (vs:List Value) (fr:Int) (i:Nat) (E:Mem):St:=⟨[os 1 0 m cap,some (.clo 42 [] [.loc 0 0]),none,none,none,none,none,oI (m:Nat),oI (i:Nat)]++List.replicate 10 none,[⟨3,.lst [I fr],1,true⟩,⟨61,.vals vs,tot,true⟩],E⟩
theorem rn72 (hr:SLr NearR E rs xs) (hm:xs.length=m) (hn:m<=1000000) (hi:i<=m/\∀ (j:Nat) x,j<i->xs[j]? =some x->oldN fr x=false)
  (h:KK (I (idxF fr xs)) [⟨3,.lst [I fr],1,true⟩,⟨61,.vals rs.flatten,tot,true⟩] E) (hQ:∀ s bx',cloK 2 KK s bx' E->Q s bx' E)
  (ih:i<m->(∀ x,xs[i]? =some x->oldN fr x=false)->Lp T0 8 Try.f72 [1,0,1,0] 2 Q (sh72 m cap tot rs.flatten fr (i+1) E)):Rnd T0 8 Try.f72 [1,0,1,0] 2 Q (sh72 m cap tot rs.flatten fr i E):=by
 refine sm_ (?_:bif decide ((NI i)<(NI m)) then req (0<=(NI i)/\(NI i)<(NI m)) (∃ (n:Int),∃ (n_1:Int),∃ (n_2:Int),∃ (n_3:Int),∃ (n_4:Int),∃ (n_5:Int),∃ (n_6:Int),∃ (n_7:Int),∃ (n_8:Int),∃ (n_9:Int),∃ (n_10:Int),∃ (n_11:Int),∃ (base:Option Addr),∃ (len:Nat),∃ (cap_1:Nat),∃ (base_1:Option Addr),∃ (len_1:Nat),∃ (cap_2:Nat),∃ (base_2:Option Addr),∃ (len_2:Nat),∃ (cap_3:Nat),∃ (base_3:Option Addr),∃ (len_3:Nat),∃ (cap_4:Nat),∃ (b:Bool),∃ (base_4:Option Addr),∃ (len_4:Nat),∃ (cap_5:Nat),∃ (base_5:Option Addr),∃ (len_5:Nat),∃ (cap_6:Nat),∃ (base_6:Option Addr),∃ (len_6:Nat),∃ (cap_7:Nat),∃ (n_12:Int),∃ (n_13:Int),∃ (n_14:Int),∃ (n_15:Int),∃ (n_16:Int),∃ (n_17:Int),∃ (n_18:Int),∃ (n_19:Int),∃ (base_7:Option Addr),∃ (len_7:Nat),∃ (cap_8:Nat),∃ (base_8:Option Addr),∃ (len_8:Nat),∃ (cap_9:Nat),∃ (b_1:Bool),LoadV T0.P 61 (List.flatten rs) (0+Int.toNat (NI i)*(31:Nat)) (SV.agg (I n::bcl n_1 n_2 n_3 n_4 n_5 n_6 n_7 n_8 n_9 n_10 n_11 b n_12 n_13 n_14 n_15 n_16 n_17 n_18 n_19 b_1 base len cap_1 base_1 len_1 cap_2 base_2 len_2 cap_3 base_3 len_3 cap_4 base_4 len_4 cap_5 base_5 len_5 cap_6 base_6 len_6 cap_7 base_7 len_7 cap_8 base_8 len_8 cap_9))/\bif decide (fr>=(0:Int)) then bif bif true then decide (fr<=(1000000000:Int)) else false then bif bif true then decide (n<WI (fr-(3:Int))) else false then Q (I (NI i)) [⟨(3:Nat),Row.lst [I fr],(1:Nat),true⟩,⟨(61:Nat),Row.vals (List.flatten rs),tot,true⟩,⟨(61:Nat),Row.lst (I n::bcl n_1 n_2 n_3 n_4 n_5 n_6 n_7 n_8 n_9 n_10 n_11 b n_12 n_13 n_14 n_15 n_16 n_17 n_18 n_19 b_1 base len cap_1 base_1 len_1 cap_2 base_2 len_2 cap_3 base_3 len_3 cap_4 base_4 len_4 cap_5 base_5 len_5 cap_6 base_6 len_6 cap_7 base_7 len_7 cap_8 base_8 len_8 cap_9),(31:Nat),true⟩] E else Lp T0 8 Try.f72 [(1:Nat),(0:Nat),(1:Nat),(0:Nat)] (2:Nat) Q { fr:=some (SV.slc 1 0 m cap)::some (SV.clo 42 [] [SV.loc 0 0])::none::none::none::none::none::oI (NI m)::oI (WI ((NI i)+1))::no8 (no2 []),bx:=[(⟨(3:Nat),Row.lst [I fr],(1:Nat),true⟩:Box),⟨(61:Nat),Row.vals (List.flatten rs),tot,true⟩,⟨(61:Nat),Row.lst (I n::bcl n_1 n_2 n_3 n_4 n_5 n_6 n_7 n_8 n_9 n_10 n_11 b n_12 n_13 n_14 n_15 n_16 n_17 n_18 n_19 b_1 base len cap_1 base_1 len_1 cap_2 base_2 len_2 cap_3 base_3 len_3 cap_4 base_4 len_4 cap_5 base_5 len_5 cap_6 base_6 len_6 cap_7 base_7 len_7 cap_8 base_8 len_8 cap_9),(31:Nat),true⟩],E:=E:St } else Lp T0 8 Try.f72 [(1:Nat),(0:Nat),(1:Nat),(0:Nat)] 2 Q { fr:=some (SV.slc 1 0 m cap)::some (SV.clo 42 [] [SV.loc 0 0])::none::none::none::none::none::oI (NI m)::oI (WI ((NI i)+1))::no8 (no2 []),bx:=[(⟨(3:Nat),Row.lst [I fr],(1:Nat),true⟩:Box),⟨(61:Nat),Row.vals (List.flatten rs),tot,true⟩,⟨(61:Nat),Row.lst (I n::bcl n_1 n_2 n_3 n_4 n_5 n_6 n_7 n_8 n_9 n_10 n_11 b n_12 n_13 n_14 n_15 n_16 n_17 n_18 n_19 b_1 base len cap_1 base_1 len_1 cap_2 base_2 len_2 cap_3 base_3 len_3 cap_4 base_4 len_4 cap_5 base_5 len_5 cap_6 base_6 len_6 cap_7 base_7 len_7 cap_8 base_8 len_8 cap_9),(31:Nat),true⟩],E:=E:St } else Lp T0 8 Try.f72 [1,0,1,0] 2 Q { fr:=some (SV.slc 1 0 m cap)::some (SV.clo 42 [] [SV.loc 0 0])::none::none::none::none::none::oI (NI m)::oI (WI ((NI i)+1))::no8 (no2 []),bx:=[(⟨(3:Nat),Row.lst [I fr],(1:Nat),true⟩:Box),⟨(61:Nat),Row.vals (List.flatten rs),tot,true⟩,⟨(61:Nat),Row.lst (I n::bcl n_1 n_2 n_3 n_4 n_5 n_6 n_7 n_8 n_9 n_10 n_11 b n_12 n_13 n_14 n_15 n_16 n_17 n_18 n_19 b_1 base len cap_1 base_1 len_1 cap_2 base_2 len_2 cap_3 base_3 len_3 cap_4 base_4 len_4 cap_5 base_5 len_5 cap_6 base_6 len_6 cap_7 base_7 len_7 cap_8 base_8 len_8 cap_9),(31:Nat),true⟩],E:=E:St }) else Q (I (-1)) [⟨3,.lst [I fr],1,true⟩,⟨61,.vals (List.flatten rs),tot,true⟩] E)
 delta WI NI no2 no8 bcl
 refine condC (fun g=>?_) (fun g=>?_)
 ·have g:i<m:=by simpa using g
  have w:IntKind.wrap .i64 ((i:Int)+1)=((i+1:Nat):Int):=by rw [wrap_i64 (by omega)];omega
  obtain ⟨x,hx⟩:∃ x,xs[i]? =some x:=⟨_,List.getElem?_eq_getElem (by omega)⟩
  obtain ⟨b11,n11,c11,b12,n12,c12,b13,n13,c13,b14,n14,c14,b16,n16,c16,b17,n17,c17,b18,n18,c18,b27,n27,c27,b28,n28,c28,lt,hM⟩:=near_V hr hx
  have nx:oldN fr x=false->_:=fun q=>ih g (fun y hy=>by rw [hx] at hy;cases hy;exact q)
  rw [show 0+Int.toNat (i:Int)*31=i*31 by rw [Int.toNat_natCast];omega,w]
  refine req_intro (by omega) ⟨x.1,x.2.from_,x.2.asn,x.2.boot,x.2.hops,x.2.bound,x.2.fresh,x.2.seq,x.2.rank,x.2.parent,x.2.first,x.2.next,b11,n11,c11,b12,n12,c12,b13,n13,c13,b14,n14,c14,x.2.full,b16,n16,c16,b17,n17,c17,b18,n18,c18,x.2.nver,x.2.size,x.2.dig,x.2.start,x.2.pages,x.2.version,x.2.page,x.2.seed,b27,n27,c27,b28,n28,c28,x.2.has,lt,condC (fun g1=>condC (fun g2=>condC (fun g3=>?_) (fun g3=>?_)) (fun g2=>?_)) (fun g1=>?_)⟩
  ·have g1:0<=fr:=by simpa using g1
   have g2:fr<=1000000000:=by simpa using g2
   rw [wrap_i64 (by omega)] at g3
   have e:idxF fr xs=(i:Int):=idxF_at hx (by unfold oldN;rw [decide_eq_true g1,decide_eq_true g2];simpa using g3) hi.2
   rw [e] at h
   exact hQ _ _ (cloK_intro [some 0,some 1] h (wkH mr_))
  ·have g1:0<=fr:=by simpa using g1
   have g2:fr<=1000000000:=by simpa using g2
   rw [wrap_i64 (by omega)] at g3
   exact Lp_re [some 0,some 1] (nx (by unfold oldN;rw [decide_eq_true g1,decide_eq_true g2];simpa using g3)) (wkH mr_)
  ·have g2:¬ fr<=1000000000:=by simpa using g2
   exact Lp_re [some 0,some 1] (nx (by unfold oldN;rw [decide_eq_false g2];simp)) (wkH mr_)
  ·have g1:¬ 0<=fr:=by simpa using g1
   exact Lp_re [some 0,some 1] (nx (by unfold oldN;rw [decide_eq_false g1];simp)) (wkH mr_)
 ·have e:idxF fr xs= -1:=idxF_no (fun j x hx=>hi.2 j x (by have:=(List.getElem?_eq_some_iff.1 hx).1;simp at g;omega) hx)
  rw [e] at h
  exact hQ _ _ (cloK_intro [some 0,some 1] h (wkH mr_))
theorem ss72 (hr:SLr NearR E rs xs) (hm:xs.length=m) (hn:m<=1000000) (h:KK (I (idxF fr xs)) [⟨3,.lst [I fr],1,true⟩,⟨61,.vals rs.flatten,tot,true⟩] E) (hQ:∀ s bx',cloK 2 KK s bx' E->Q s bx' E):
  EntB T0 8 Try.f72 [.slc 1 0 m cap,.clo 42 [] [.loc 0 0]] [⟨3,.lst [I fr],1,true⟩,⟨61,.vals rs.flatten,tot,true⟩] E Q:=by
 refine sm_ (?_:Lp T0 8 Try.f72 [1,0,1,0] 2 Q { fr:=[os 1 0 m cap,some (SV.clo 42 [] [SV.loc 0 0]),none,none,none,none,os 1 0 m cap,oI (↑m:Int),oI (0:Int),none,none,none,none,none,none,none,none,none,none],bx:=[(⟨3,Row.lst [I fr],1,true⟩:Box),⟨61,Row.vals (List.flatten rs),tot,true⟩],E:=E:St })
 exact Lp_re [some 0,some 1] (Lp_ind okT0 (fun z:{i:Nat//i<=m/\∀ (j:Nat) x,j<i->xs[j]? =some x->oldN fr x=false}=>sh72 m cap tot rs.flatten fr z.1 E) (fun z=>m-z.1) (fun z ih=>rn72 hr hm hn z.2 h hQ fun g hf=>ih ⟨z.1+1,g,fun j x hj hx=>by
  rcases Nat.lt_succ_iff_lt_or_eq.1 hj with h1|h1
  ·exact z.2.2 j x h1 hx
  ·subst h1;exact hf x hx⟩ (by show m-(_+1)<m-_;omega)) ⟨0,Nat.zero_le _,fun j x hj=>absurd hj (Nat.not_lt_zero _)⟩) (wkH mr_)
end Go.Proofs.Ytnjmojacdkjfoaa.BeaconOwn
