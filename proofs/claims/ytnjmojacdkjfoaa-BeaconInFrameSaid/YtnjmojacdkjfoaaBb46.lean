/- What functions of the program compute; plain lemmas on it. Conditions: none. -/
import Derived.Test.YtnjmojacdkjfoaaBb42
namespace Go.Proofs.Ytnjmojacdkjfoaa.BeaconOwn
open Go Go.Sx
set_option maxRecDepth 100000
set_option maxHeartbeats 4000000
set_option linter.unusedVariables false
set_option linter.unusedSimpArgs false
variable {E:Mem} {K:SV->Mem->Prop}
variable {b b28 b13 b27 b16 b12 b17 b11 b18 b14:Option Addr} {c i n14 c12 c27 c18 n28 n13 n11 c13 n12 c17 c28 c16 n18 n27 n17 c11 c14 n16 l:Nat} {xs:List (List Int)} {ok0 ok:Bool} {x:Bc} {a n e' e y f t k p lo hi er p':Int} {zs ys:List Int} {E0:Mem}
theorem row_part {q:IntKind} {k:Nat} {T:TypeId} {n:Nat} (hk:0<k) (h:SL (RK q k) E b n c xs) (hu:(match Try.prog.underlying T with |some (.struct _)=>true|_=>false)=true) (hs:(Try.prog.info? T).map (·.size)=some 2) (h2:2<=k) {x:List Int} (hx:xs[i]? =some x):
  LoadE Try.prog E T (.slice b n c) (i*k+0) (.agg [.raw (.int q (x.getD 0 0)),.raw (.int q (x.getD 1 0))]):=by
 obtain ⟨cs,r,h1,h2',h3,h4,h5⟩:=SL.load (RK_ok q hk) h hx
 refine ⟨cs,h1,loadW_row (k:=2) hu hs ?_ rfl⟩
 match x,h5,h2 with
 | a::a'::t,h5,_=>
  have e:(cs.drop (i*k)).take 2=[.int q a,.int q a']:=by
   have:=congrArg (List.take 2) h2'
   rw [List.take_take,Nat.min_eq_left h2,h4] at this
   rw [this];rfl
  rw [Nat.add_zero,← List.map_drop,← List.map_take,e];rfl
noncomputable def tabV:FuncId->List SV->Mem->(SV->Mem->Prop)->Prop:=fun f args E K=>match f with
 | 78=>d2 args fun x0 x1=>dC x0 fun l=>d2 l fun y0 y1=>dI y0 fun a=>dI y1 fun b=>dI x1 fun c=>∀ v:Bool,(v=true↔inB a 0 59=true/\inB b 0 15=true/\inB c 0 59=true)->K (B v) E
 | 53=>d1 args fun x0=>dC x0 fun l=>d2 l fun y0 y1=>dI y0 fun a=>dI y1 fun b=>∀ v:Bool,(v=true↔inB a 0 500002=true/\inB b 0 500002=true)->K (B v) E
 | f=>tab52 f args E K
theorem tabV_ok:TabOK Try.prog tabV:=by
 intro f args E K h
 unfold tabV at h
 split at h
 ·replace h:=d2_elim h
  obtain ⟨x0,x1,rfl,h⟩:=h
  replace h:=dC_elim h
  obtain ⟨l,hl,h⟩:=h
  replace h:=d2_elim h
  obtain ⟨y0,y1,rfl,h⟩:=h
  replace h:=dI_elim h
  obtain ⟨a,rfl,h⟩:=h
  replace h:=dI_elim h
  obtain ⟨b,rfl,h⟩:=h
  replace h:=dI_elim h
  obtain ⟨c,rfl,h⟩:=h
  exact TabSem.congr (valL_cons (asCells_val hl) (valL_cons rfl rfl)) (esm okR1 Try.func78 rfl (ss78 h))
 ·replace h:=d1_elim h
  obtain ⟨x0,rfl,h⟩:=h
  replace h:=dC_elim h
  obtain ⟨l,hl,h⟩:=h
  replace h:=d2_elim h
  obtain ⟨y0,y1,rfl,h⟩:=h
  replace h:=dI_elim h
  obtain ⟨a,rfl,h⟩:=h
  replace h:=dI_elim h
  obtain ⟨b,rfl,h⟩:=h
  exact TabSem.congr (valL_cons (asCells_val hl) rfl) (esm okR1 Try.func53 rfl (ss53 h))
 ·exact tab52_ok _ _ _ _ h
noncomputable def R2:Cx:={ P:=Try.prog,inl:=fun f=>List.contains [] f,tab:=tabV,isB:=fun _=>false,tabB:=fun _ _ _ _ _=>False,opt:={ unroll:=0,carry:=[3,4,5,7,11,13] },muts:=mutsD }
theorem okR2:CxOK R2:=CxOK.four tabV_ok (by kernel_rfl) (okInl (by kernel_rfl)) (fun _ _ _ _ _ h=>h.elim)
theorem all_snoc {its:List Item} {x:List Int} (hx:xs[i]? =some x):(∀ r∈xs.take (i+1),rowOK its r=true)↔(∀ r∈xs.take i,rowOK its r=true)/\rowOK its x=true:=by
 rw [take_get' hx]
 constructor
 ·intro h;exact ⟨fun r hr=>h r (by simp [hr]),h x (by simp)⟩
 ·rintro ⟨h1,h2⟩ r hr
  rcases List.mem_append.1 hr with h|h
  ·exact h1 r h
  ·cases List.mem_singleton.1 h;exact h2
def sh55 (b:Option Addr) (n c i:Nat) (m:Int) (E:Mem):St:=⟨[oL b n c,oI m,none,none,none,oI (i:Nat)]++List.replicate 69 none,[],E⟩
theorem rn55 {n:Nat} {m:Int} (h0:SL (RK .i64 8) E b n c xs) (hn:n<=1000000) (hi:i<=n) (hg:∀ r∈xs.take i,rowOK [(0,some (1,4)),(1,some (0,59)),(2,some (-1,59)),(3,some (0,10000000000000)),(4,some (0,10000000000000)),(5,some (0,2000000)),(6,some (0,500002)),(7,some (0,500002))] r=true) (h:∀ v:Bool,(v=true↔(n:Int)<=m/\∀ r∈xs,rowOK [(0,some (1,4)),(1,some (0,59)),(2,some (-1,59)),(3,some (0,10000000000000)),(4,some (0,10000000000000)),(5,some (0,2000000)),(6,some (0,500002)),(7,some (0,500002))] r=true)->K (B v) E)
  (ih:i<n->(∀ r∈xs.take (i+1),rowOK [(0,some (1,4)),(1,some (0,59)),(2,some (-1,59)),(3,some (0,10000000000000)),(4,some (0,10000000000000)),(5,some (0,2000000)),(6,some (0,500002)),(7,some (0,500002))] r=true)->Lp R2 8 Try.f55 [1,0,1,0] 0 (pubK E K) (sh55 b n c (i+1) m E)):Rnd R2 8 Try.f55 [1,0,1,0] 0 (pubK E K) (sh55 b n c i m E):=by
 refine sm_ (?_:bif decide ((NI i)<(NI n)) then req (0<=(NI i)/\(NI i)<(NI n)) ((∃ (cs:List Value),E (VS b n c) cs/\(cs=[]->False))/\∃ (n_1:Int),∃ (n_2:Int),∃ (n_3:Int),∃ (n_4:Int),∃ (n_5:Int),∃ (n_6:Int),∃ (n_7:Int),∃ (n_8:Int),LoadE R2.P E 127 (VS b n c) (Int.toNat (NI i)*8) (SV.agg [I n_1,I n_2,I n_3,I n_4,I n_5,I n_6,I n_7,I n_8])/\∀ (v:Bool),(v=true↔inB n_7 0 (500002:Int)=true/\inB n_8 0 (500002:Int)=true)->Mem.le E E/\Mem.le E E/\Mem.le E E/\Mem.le E E/\Mem.le E E/\Mem.le E E/\Mem.le E E/\bif !v then Mem.le E E/\K (B false) E else bif bif false then true else !inB n_4 0 10000000000000 then Mem.le E E/\K (B false) E else bif bif false then true else !inB n_5 0 10000000000000 then Mem.le E E/\K (B false) E else bif bif false then true else !inB n_1 1 4 then Mem.le E E/\K (B false) E else bif bif false then true else !inB n_2 0 59 then Mem.le E E/\K (B false) E else bif bif false then true else !inB n_3 (-1:Int) 59 then Mem.le E E/\K (B false) E else bif bif false then true else !inB n_6 0 2000000 then Mem.le E E/\K (B false) E else Lp R2 8 Try.f55 [1,0,1,0] 0 (pubK E K) { fr:=some (L b n c)::oI m::none::none::none::oI (WI ((NI i)+1))::none::oB v::none::none::none::oB (inB n_2 0 59)::none::oB (inB n_6 0 2000000)::no32 (no16 (no8 (no4 (none::[])))),bx:=[(⟨127,.lst [I n_1,I n_2,I n_3,I n_4,I n_5,I n_6,I n_7,I n_8],8,true⟩:Box)],E:=E:St }) else Mem.le E E/\K (B (decide ((NI n)<=m))) E)
 delta WI NI VS no4 no8 no16 no32
 have hl:=h0.len
 refine condC (fun g=>?_) (fun g=>⟨mr_,h _ (by
  have e:i=n:=by simp at g;omega
  subst e
  rw [List.take_of_length_le (by omega)] at hg
  simp only [decide_eq_true_eq]
  exact ⟨fun q=>⟨q,hg⟩,fun q=>q.1⟩)⟩)
 have g:i<n:=by simpa using g
 have w:IntKind.wrap .i64 ((i:Int)+1)=((i+1:Nat):Int):=by rw [wrap_i64 (by omega)];omega
 obtain ⟨x,hx⟩:∃ x,xs[i]? =some x:=⟨_,List.getElem?_eq_getElem (by omega)⟩
 obtain ⟨a0,a1,a2,a3,a4,a5,a6,a7,e0,l0⟩:=rowK8 (T:=127) h0 rfl rfl hx
 have hr:rowOK [(0,some (1,4)),(1,some (0,59)),(2,some (-1,59)),(3,some (0,10000000000000)),(4,some (0,10000000000000)),(5,some (0,2000000)),(6,some (0,500002)),(7,some (0,500002))] x=true↔inB a0 1 4=true/\inB a1 0 59=true/\inB a2 (-1) 59=true/\inB a3 0 10000000000000=true/\inB a4 0 10000000000000=true/\inB a5 0 2000000=true/\inB a6 0 500002=true/\inB a7 0 500002=true:=by subst e0;simp [rowOK,inB]
 have no:¬ rowOK [(0,some (1,4)),(1,some (0,59)),(2,some (-1,59)),(3,some (0,10000000000000)),(4,some (0,10000000000000)),(5,some (0,2000000)),(6,some (0,500002)),(7,some (0,500002))] x=true->Mem.le E E/\K (B false) E:=fun q=>⟨mr_,h false ⟨fun e=>(by cases e),fun e=>absurd (e.2 x (List.mem_of_getElem? hx)) q⟩⟩
 rw [hr] at no
 refine req_intro (by omega) ⟨SL.ne (RK_ok .i64 (by decide)) h0 g,a0,a1,a2,a3,a4,a5,a6,a7,l0,fun v hv=>⟨mr_,mr_,mr_,mr_,mr_,mr_,mr_,?_⟩⟩
 refine condC (fun q=>no (fun z=>by rw [hv.2 ⟨z.2.2.2.2.2.2.1,z.2.2.2.2.2.2.2⟩] at q;cases q)) (fun q0=>?_)
 refine condC (fun q=>no (fun z=>by rw [z.2.2.2.1] at q;cases q)) (fun q1=>?_)
 refine condC (fun q=>no (fun z=>by rw [z.2.2.2.2.1] at q;cases q)) (fun q2=>?_)
 refine condC (fun q=>no (fun z=>by rw [z.1] at q;cases q)) (fun q3=>?_)
 refine condC (fun q=>no (fun z=>by rw [z.2.1] at q;cases q)) (fun q4=>?_)
 refine condC (fun q=>no (fun z=>by rw [z.2.2.1] at q;cases q)) (fun q5=>?_)
 refine condC (fun q=>no (fun z=>by rw [z.2.2.2.2.2.1] at q;cases q)) (fun q6=>?_)
 rw [w]
 exact Lp_re [] (ih g ((all_snoc hx).2 ⟨hg,hr.2 (by
  have:=hv.1 (by simpa using q0)
  exact ⟨by simpa using q3,by simpa using q4,by simpa using q5,by simpa using q1,by simpa using q2,by simpa using q6,this.1,this.2⟩)⟩)) (wkH mr_)
theorem ss55 {n:Nat} {m:Int} (h0:SL (RK .i64 8) E b n c xs) (hn:n<=1000000) (h:∀ v:Bool,(v=true↔(n:Int)<=m/\∀ r∈xs,rowOK [(0,some (1,4)),(1,some (0,59)),(2,some (-1,59)),(3,some (0,10000000000000)),(4,some (0,10000000000000)),(5,some (0,2000000)),(6,some (0,500002)),(7,some (0,500002))] r=true)->K (B v) E):Ent R2 8 Try.f55 [L b n c,I m] E K:=by
 refine sm_ (?_:Lp R2 8 Try.f55 [1,0,1,0] 0 (pubK E K) { fr:=some (L b n c)::oI m::none::none::oB false::oI 0::no32 (no32 (no4 (none::[]))),bx:=[],E:=E:St })
 delta no4 no32
 exact Lp_re [] (Lp_ind okR2 (fun z:{i:Nat//i<=n/\∀ r∈xs.take i,rowOK [(0,some (1,4)),(1,some (0,59)),(2,some (-1,59)),(3,some (0,10000000000000)),(4,some (0,10000000000000)),(5,some (0,2000000)),(6,some (0,500002)),(7,some (0,500002))] r=true}=>sh55 b n c z.1 m E) (fun z=>n-z.1) (fun z ih=>rn55 h0 hn z.2.1 z.2.2 h fun g hf=>ih ⟨z.1+1,g,hf⟩ (by show n-(_+1)<n-_;omega)) ⟨0,Nat.zero_le _,by simp⟩) (wkH mr_)
def sh54_0 (x:Bc) (b11:Option Addr) (n11 c11:Nat) (b12:Option Addr) (n12 c12:Nat) (b13:Option Addr) (n13 c13:Nat) (b14:Option Addr) (n14 c14:Nat) (b16:Option Addr) (n16 c16:Nat) (b17:Option Addr) (n17 c17:Nat) (b18:Option Addr) (n18 c18:Nat) (b27:Option Addr) (n27 c27:Nat) (b28:Option Addr) (n28 c28:Nat) (ok:Bool) (i:Nat) (E:Mem):St:=⟨[none,oc 0 0,none,oB ok,oI (i:Nat)]++List.replicate 175 none,[⟨40,.lst [I x.from_,I x.asn,I x.boot,I x.hops,I x.bound,I x.fresh,I x.seq,I x.rank,I x.parent,I x.first,I x.next,L b11 n11 c11,L b12 n12 c12,L b13 n13 c13,L b14 n14 c14,B x.full,L b16 n16 c16,L b17 n17 c17,L b18 n18 c18,I x.nver,I x.size,.raw (.int .u64 x.dig),I x.start,I x.pages,I x.version,I x.page,I x.seed,L b27 n27 c27,L b28 n28 c28,B x.has],30,true⟩],E⟩
def sh54_1 (x:Bc) (b11:Option Addr) (n11 c11:Nat) (b12:Option Addr) (n12 c12:Nat) (b13:Option Addr) (n13 c13:Nat) (b14:Option Addr) (n14 c14:Nat) (b16:Option Addr) (n16 c16:Nat) (b17:Option Addr) (n17 c17:Nat) (b18:Option Addr) (n18 c18:Nat) (b27:Option Addr) (n27 c27:Nat) (b28:Option Addr) (n28 c28:Nat) (ok:Bool) (i:Nat) (E:Mem):St:=⟨[none,oc 0 0,none,oB ok,none,none,none,oI (i:Nat)]++List.replicate 172 none,[⟨40,.lst [I x.from_,I x.asn,I x.boot,I x.hops,I x.bound,I x.fresh,I x.seq,I x.rank,I x.parent,I x.first,I x.next,L b11 n11 c11,L b12 n12 c12,L b13 n13 c13,L b14 n14 c14,B x.full,L b16 n16 c16,L b17 n17 c17,L b18 n18 c18,I x.nver,I x.size,.raw (.int .u64 x.dig),I x.start,I x.pages,I x.version,I x.page,I x.seed,L b27 n27 c27,L b28 n28 c28,B x.has],30,true⟩],E⟩
def sh54_2 (x:Bc) (b11:Option Addr) (n11 c11:Nat) (b12:Option Addr) (n12 c12:Nat) (b13:Option Addr) (n13 c13:Nat) (b14:Option Addr) (n14 c14:Nat) (b16:Option Addr) (n16 c16:Nat) (b17:Option Addr) (n17 c17:Nat) (b18:Option Addr) (n18 c18:Nat) (b27:Option Addr) (n27 c27:Nat) (b28:Option Addr) (n28 c28:Nat) (ok:Bool) (i:Nat) (E:Mem):St:=⟨[none,oc 0 0,none,oB ok,none,none,none,none,none,none,none,oI (i:Nat)]++List.replicate 168 none,[⟨40,.lst [I x.from_,I x.asn,I x.boot,I x.hops,I x.bound,I x.fresh,I x.seq,I x.rank,I x.parent,I x.first,I x.next,L b11 n11 c11,L b12 n12 c12,L b13 n13 c13,L b14 n14 c14,B x.full,L b16 n16 c16,L b17 n17 c17,L b18 n18 c18,I x.nver,I x.size,.raw (.int .u64 x.dig),I x.start,I x.pages,I x.version,I x.page,I x.seed,L b27 n27 c27,L b28 n28 c28,B x.has],30,true⟩],E⟩
def sh54_3 (x:Bc) (b11:Option Addr) (n11 c11:Nat) (b12:Option Addr) (n12 c12:Nat) (b13:Option Addr) (n13 c13:Nat) (b14:Option Addr) (n14 c14:Nat) (b16:Option Addr) (n16 c16:Nat) (b17:Option Addr) (n17 c17:Nat) (b18:Option Addr) (n18 c18:Nat) (b27:Option Addr) (n27 c27:Nat) (b28:Option Addr) (n28 c28:Nat) (ok:Bool) (i:Nat) (E:Mem):St:=⟨[none,oc 0 0,none,oB ok,none,none,none,none,none,none,none,none,none,oI (i:Nat)]++List.replicate 166 none,[⟨40,.lst [I x.from_,I x.asn,I x.boot,I x.hops,I x.bound,I x.fresh,I x.seq,I x.rank,I x.parent,I x.first,I x.next,L b11 n11 c11,L b12 n12 c12,L b13 n13 c13,L b14 n14 c14,B x.full,L b16 n16 c16,L b17 n17 c17,L b18 n18 c18,I x.nver,I x.size,.raw (.int .u64 x.dig),I x.start,I x.pages,I x.version,I x.page,I x.seed,L b27 n27 c27,L b28 n28 c28,B x.has],30,true⟩],E⟩
theorem rn54_0 (hM:BcM E x b11 n11 c11 b12 n12 c12 b13 n13 c13 b14 n14 c14 b16 n16 c16 b17 n17 c17 b18 n18 c18 b27 n27 c27 b28 n28 c28) (hn:n11<=1000000) (hi:i<=n11) (hg:ok=true↔ok0=true/\∀ r∈x.uses.take i,rowOK [(0,some (0,59)),(1,some (0,15)),(2,some (0,59)),(3,some (0,1000000000))] r=true) (h:∀ v:Bool,(v=true↔ok0=true/\∀ r∈x.uses,rowOK [(0,some (0,59)),(1,some (0,15)),(2,some (0,59)),(3,some (0,1000000000))] r=true)->Lp R2 8 Try.f54 [1,1,1,1,0,1,0] 0 (pubK E K) (sh54_1 x b11 n11 c11 b12 n12 c12 b13 n13 c13 b14 n14 c14 b16 n16 c16 b17 n17 c17 b18 n18 c18 b27 n27 c27 b28 n28 c28 v 0 E))
  (ih:∀ v:Bool,i<n11->(v=true↔ok0=true/\∀ r∈x.uses.take (i+1),rowOK [(0,some (0,59)),(1,some (0,15)),(2,some (0,59)),(3,some (0,1000000000))] r=true)->Lp R2 8 Try.f54 [1,1,1,0,1,0] 0 (pubK E K) (sh54_0 x b11 n11 c11 b12 n12 c12 b13 n13 c13 b14 n14 c14 b16 n16 c16 b17 n17 c17 b18 n18 c18 b27 n27 c27 b28 n28 c28 v (i+1) E)):Rnd R2 8 Try.f54 [1,1,1,0,1,0] 0 (pubK E K) (sh54_0 x b11 n11 c11 b12 n12 c12 b13 n13 c13 b14 n14 c14 b16 n16 c16 b17 n17 c17 b18 n18 c18 b27 n27 c27 b28 n28 c28 ok i E):=by
 refine sm_ (?_:bif decide ((NI i)<(NI n11)) then req (0<=(NI i)/\(NI i)<(NI n11)) ((∃ (cs:List Value),E (VS b11 n11 c11) cs/\(cs=[]->False))/\∃ (n:Int),∃ (n_1:Int),LoadE R2.P E 93 (VS b11 n11 c11) (Int.toNat (NI i)*4+0) (SV.agg [I n,I n_1])/\req (0<=(NI i)/\(NI i)<(NI n11)) ((∃ (cs:List Value),E (VS b11 n11 c11) cs/\(cs=[]->False))/\∃ (n_2:Int),LoadE R2.P E 3 (VS b11 n11 c11) (Int.toNat (NI i)*4+2) (I n_2)/\∀ (v:Bool),(v=true↔inB n 0 (59:Int)=true/\inB n_1 0 (15:Int)=true/\inB n_2 0 (59:Int)=true)->Mem.le E E/\req (0<=(NI i)/\(NI i)<(NI n11)) ((∃ (cs:List Value),E (VS b11 n11 c11) cs/\(cs=[]->False))/\∃ (n:Int),LoadE R2.P E 3 (VS b11 n11 c11) (Int.toNat (NI i)*4+3) (I n)/\Mem.le E E/\bif ok then bif bif true then v else false then Lp R2 8 Try.f54 [1,1,1,0,1,0] 0 (pubK E K) { fr:=none::oc 0 0::none::oB (bif true then inB n 0 1000000000 else false)::oI (WI ((NI i)+1))::oB v::no32 (no32 (no32 (no32 (no32 (no8 (no4 (no2 []))))))),bx:=[(⟨40,.lst (bcx x b11 n11 c11 b12 n12 c12 b13 n13 c13 b14 n14 c14 b16 n16 c16 b17 n17 c17 b18 n18 c18 b27 n27 c27 b28 n28 c28),30,true⟩:Box)],E:=E:St } else Lp R2 8 Try.f54 [1,1,1,0,1,0] 0 (pubK E K) { fr:=none::oc 0 0::none::oB false::oI (WI ((NI i)+1))::oB v::no32 (no32 (no32 (no32 (no32 (no8 (no4 (no2 []))))))),bx:=[(⟨40,.lst (bcx x b11 n11 c11 b12 n12 c12 b13 n13 c13 b14 n14 c14 b16 n16 c16 b17 n17 c17 b18 n18 c18 b27 n27 c27 b28 n28 c28),30,true⟩:Box)],E:=E:St } else Lp R2 8 Try.f54 [1,1,1,0,1,0] 0 (pubK E K) { fr:=none::oc 0 0::none::oB false::oI (WI ((NI i)+1))::oB v::no32 (no32 (no32 (no32 (no32 (no8 (no4 (no2 []))))))),bx:=[(⟨40,.lst (bcx x b11 n11 c11 b12 n12 c12 b13 n13 c13 b14 n14 c14 b16 n16 c16 b17 n17 c17 b18 n18 c18 b27 n27 c27 b28 n28 c28),30,true⟩:Box)],E:=E:St }))) else Lp R2 8 Try.f54 [1,1,1,1,0,1,0] 0 (pubK E K) { fr:=none::oc 0 0::none::oB ok::oI (NI i)::none::none::oI 0::no16 (no8 (no4 (no2 (oI (NI i)::oc 0 11::oL b11 n11 c11::oI (NI n11)::oB (decide ((NI i)<(NI n11)))::no32 (no32 (no32 (no32 (no8 (none::[]))))))))),bx:=[(⟨40,.lst (bcx x b11 n11 c11 b12 n12 c12 b13 n13 c13 b14 n14 c14 b16 n16 c16 b17 n17 c17 b18 n18 c18 b27 n27 c27 b28 n28 c28),30,true⟩:Box)],E:=E:St })
 delta WI NI VS no2 no4 no8 no16 no32 bcx
 have h0:=hM.h11
 have hl:=h0.len
 refine condC (fun g=>?_) (fun g=>?_)
 ·have g:i<n11:=by simpa using g
  have w:IntKind.wrap .i64 ((i:Int)+1)=((i+1:Nat):Int):=by rw [wrap_i64 (by omega)];omega
  obtain ⟨y,hx⟩:∃ y,x.uses[i]? =some y:=⟨_,List.getElem?_eq_getElem (by omega)⟩
  obtain ⟨a0,a1,a2,a3,e0,l0⟩:=rowK4 (T:=95) h0 rfl rfl hx
  have hr:rowOK [(0,some (0,59)),(1,some (0,15)),(2,some (0,59)),(3,some (0,1000000000))] y=true↔(inB a0 0 59=true/\inB a1 0 15=true/\inB a2 0 59=true)/\inB a3 0 1000000000=true:=by subst e0;simp [rowOK,inB];try omega
  subst e0
  refine req_intro (by omega) ⟨SL.ne (RK_ok .i64 (by decide)) h0 g,a0,a1,row_part (T:=93) (by decide) h0 rfl rfl (by decide) hx,req_intro (by omega) ⟨SL.ne (RK_ok .i64 (by decide)) h0 g,a2,RK_load (by decide) (T:=3) (by kernel_rfl) h0 hx 2 (by decide),fun v hv=>⟨mr_,?_⟩⟩⟩
  rw [← hv] at hr
  refine req_intro (by omega) ⟨SL.ne (RK_ok .i64 (by decide)) h0 g,a3,RK_load (by decide) (T:=3) (by kernel_rfl) h0 hx 3 (by decide),mr_,?_⟩
  rw [w]
  refine condC (fun q1=>condC (fun q2=>?_) (fun q2=>?_)) (fun q1=>?_)
  ·exact Lp_re [some 0] (ih (inB a3 0 1000000000) g (by rw [all_snoc hx,← and_assoc,← hg,hr];simp at q2;simp [q1,q2])) (wkH mr_)
  ·exact Lp_re [some 0] (ih (false) g (by rw [all_snoc hx,← and_assoc,← hg,hr];simp at q2;simp [q1,q2])) (wkH mr_)
  ·exact Lp_re [some 0] (ih (false) g (by rw [all_snoc hx,← and_assoc,← hg,hr];simp [q1])) (wkH mr_)
 ·have e:i=n11:=by simp at g;omega
  rw [e,List.take_of_length_le (by omega)] at hg
  exact Lp_re [some 0] (h ok hg) (wkH mr_)
theorem rn54_1 (hM:BcM E x b11 n11 c11 b12 n12 c12 b13 n13 c13 b14 n14 c14 b16 n16 c16 b17 n17 c17 b18 n18 c18 b27 n27 c27 b28 n28 c28) (hn:n12<=1000000) (hi:i<=n12) (hg:ok=true↔ok0=true/\∀ r∈x.grants.take i,rowOK [(0,some (0,59)),(1,some (0,15)),(2,some (0,59)),(3,some (0,1000000000)),(4,some (0,1000000000))] r=true) (h:∀ v:Bool,(v=true↔ok0=true/\∀ r∈x.grants,rowOK [(0,some (0,59)),(1,some (0,15)),(2,some (0,59)),(3,some (0,1000000000)),(4,some (0,1000000000))] r=true)->Lp R2 8 Try.f54 [1,1,1,1,1,0,1,0] 0 (pubK E K) (sh54_2 x b11 n11 c11 b12 n12 c12 b13 n13 c13 b14 n14 c14 b16 n16 c16 b17 n17 c17 b18 n18 c18 b27 n27 c27 b28 n28 c28 v 0 E))
  (ih:∀ v:Bool,i<n12->(v=true↔ok0=true/\∀ r∈x.grants.take (i+1),rowOK [(0,some (0,59)),(1,some (0,15)),(2,some (0,59)),(3,some (0,1000000000)),(4,some (0,1000000000))] r=true)->Lp R2 8 Try.f54 [1,1,1,1,0,1,0] 0 (pubK E K) (sh54_1 x b11 n11 c11 b12 n12 c12 b13 n13 c13 b14 n14 c14 b16 n16 c16 b17 n17 c17 b18 n18 c18 b27 n27 c27 b28 n28 c28 v (i+1) E)):Rnd R2 8 Try.f54 [1,1,1,1,0,1,0] 0 (pubK E K) (sh54_1 x b11 n11 c11 b12 n12 c12 b13 n13 c13 b14 n14 c14 b16 n16 c16 b17 n17 c17 b18 n18 c18 b27 n27 c27 b28 n28 c28 ok i E):=by
 refine sm_ (?_:bif decide ((NI i)<(NI n12)) then req (0<=(NI i)/\(NI i)<(NI n12)) ((∃ (cs:List Value),E (VS b12 n12 c12) cs/\(cs=[]->False))/\∃ (n:Int),∃ (n_1:Int),LoadE R2.P E 93 (VS b12 n12 c12) (Int.toNat (NI i)*5+0) (SV.agg [I n,I n_1])/\req (0<=(NI i)/\(NI i)<(NI n12)) ((∃ (cs:List Value),E (VS b12 n12 c12) cs/\(cs=[]->False))/\∃ (n_2:Int),LoadE R2.P E 3 (VS b12 n12 c12) (Int.toNat (NI i)*5+2) (I n_2)/\∀ (v:Bool),(v=true↔inB n 0 (59:Int)=true/\inB n_1 0 (15:Int)=true/\inB n_2 0 (59:Int)=true)->Mem.le E E/\req (0<=(NI i)/\(NI i)<(NI n12)) ((∃ (cs:List Value),E (VS b12 n12 c12) cs/\(cs=[]->False))/\∃ (n:Int),LoadE R2.P E 3 (VS b12 n12 c12) (Int.toNat (NI i)*5+3) (I n)/\Mem.le E E/\req (0<=(NI i)/\(NI i)<(NI n12)) ((∃ (cs:List Value),E (VS b12 n12 c12) cs/\(cs=[]->False))/\∃ (n_3:Int),LoadE R2.P E 3 (VS b12 n12 c12) (Int.toNat (NI i)*5+4) (I n_3)/\Mem.le E E/\bif ok then bif bif true then v else false then bif bif true then inB n 0 1000000000 else false then Lp R2 8 Try.f54 [1,1,1,1,0,1,0] 0 (pubK E K) { fr:=none::oc 0 0::none::oB (bif true then inB n_3 0 1000000000 else false)::none::none::none::oI (WI ((NI i)+1))::no32 (no32 (no32 (no32 (no32 (no8 (no4 [])))))),bx:=[(⟨40,.lst (bcx x b11 n11 c11 b12 n12 c12 b13 n13 c13 b14 n14 c14 b16 n16 c16 b17 n17 c17 b18 n18 c18 b27 n27 c27 b28 n28 c28),30,true⟩:Box)],E:=E:St } else Lp R2 8 Try.f54 [1,1,1,1,0,1,0] 0 (pubK E K) { fr:=none::oc 0 0::none::oB false::none::none::none::oI (WI ((NI i)+1))::no32 (no32 (no32 (no32 (no32 (no8 (no4 [])))))),bx:=[(⟨40,.lst (bcx x b11 n11 c11 b12 n12 c12 b13 n13 c13 b14 n14 c14 b16 n16 c16 b17 n17 c17 b18 n18 c18 b27 n27 c27 b28 n28 c28),30,true⟩:Box)],E:=E:St } else Lp R2 8 Try.f54 [1,1,1,1,0,1,0] 0 (pubK E K) { fr:=none::oc 0 0::none::oB false::none::none::none::oI (WI ((NI i)+1))::no32 (no32 (no32 (no32 (no32 (no8 (no4 [])))))),bx:=[(⟨40,.lst (bcx x b11 n11 c11 b12 n12 c12 b13 n13 c13 b14 n14 c14 b16 n16 c16 b17 n17 c17 b18 n18 c18 b27 n27 c27 b28 n28 c28),30,true⟩:Box)],E:=E:St } else Lp R2 8 Try.f54 [1,1,1,1,0,1,0] 0 (pubK E K) { fr:=none::oc 0 0::none::oB false::none::none::none::oI (WI ((NI i)+1))::no32 (no32 (no32 (no32 (no32 (no8 (no4 [])))))),bx:=[(⟨40,.lst (bcx x b11 n11 c11 b12 n12 c12 b13 n13 c13 b14 n14 c14 b16 n16 c16 b17 n17 c17 b18 n18 c18 b27 n27 c27 b28 n28 c28),30,true⟩:Box)],E:=E:St })))) else Lp R2 8 Try.f54 [1,1,1,1,1,0,1,0] 0 (pubK E K) { fr:=none::oc 0 0::none::oB ok::none::none::none::oI (NI i)::none::none::none::oI 0::no32 (no16 (no8 (no4 (oI (NI i)::oc 0 12::oL b12 n12 c12::oI (NI n12)::oB (decide ((NI i)<(NI n12)))::no32 (no32 (no32 (no4 (no2 (none::[]))))))))),bx:=[(⟨40,.lst (bcx x b11 n11 c11 b12 n12 c12 b13 n13 c13 b14 n14 c14 b16 n16 c16 b17 n17 c17 b18 n18 c18 b27 n27 c27 b28 n28 c28),30,true⟩:Box)],E:=E:St })
 delta WI NI VS no2 no4 no8 no16 no32 bcx
 have h0:=hM.h12
 have hl:=h0.len
 refine condC (fun g=>?_) (fun g=>?_)
 ·have g:i<n12:=by simpa using g
  have w:IntKind.wrap .i64 ((i:Int)+1)=((i+1:Nat):Int):=by rw [wrap_i64 (by omega)];omega
  obtain ⟨y,hx⟩:∃ y,x.grants[i]? =some y:=⟨_,List.getElem?_eq_getElem (by omega)⟩
  obtain ⟨a0,a1,a2,a3,a4,e0,l0⟩:=rowK5 (T:=97) h0 rfl rfl hx
  have hr:rowOK [(0,some (0,59)),(1,some (0,15)),(2,some (0,59)),(3,some (0,1000000000)),(4,some (0,1000000000))] y=true↔(inB a0 0 59=true/\inB a1 0 15=true/\inB a2 0 59=true)/\inB a3 0 1000000000=true/\inB a4 0 1000000000=true:=by subst e0;simp [rowOK,inB];try omega
  subst e0
  refine req_intro (by omega) ⟨SL.ne (RK_ok .i64 (by decide)) h0 g,a0,a1,row_part (T:=93) (by decide) h0 rfl rfl (by decide) hx,req_intro (by omega) ⟨SL.ne (RK_ok .i64 (by decide)) h0 g,a2,RK_load (by decide) (T:=3) (by kernel_rfl) h0 hx 2 (by decide),fun v hv=>⟨mr_,?_⟩⟩⟩
  rw [← hv] at hr
  refine req_intro (by omega) ⟨SL.ne (RK_ok .i64 (by decide)) h0 g,a3,RK_load (by decide) (T:=3) (by kernel_rfl) h0 hx 3 (by decide),mr_,req_intro (by omega) ⟨SL.ne (RK_ok .i64 (by decide)) h0 g,a4,RK_load (by decide) (T:=3) (by kernel_rfl) h0 hx 4 (by decide),mr_,?_⟩⟩
  rw [w]
  refine condC (fun q1=>condC (fun q2=>condC (fun q3=>?_) (fun q3=>?_)) (fun q2=>?_)) (fun q1=>?_)
  ·exact Lp_re [some 0] (ih (inB a4 0 1000000000) g (by rw [all_snoc hx,← and_assoc,← hg,hr];simp at q2 q3;simp [q1,q2,q3])) (wkH mr_)
  ·exact Lp_re [some 0] (ih (false) g (by rw [all_snoc hx,← and_assoc,← hg,hr];simp at q2 q3;simp [q1,q2,q3])) (wkH mr_)
  ·exact Lp_re [some 0] (ih (false) g (by rw [all_snoc hx,← and_assoc,← hg,hr];simp at q2;simp [q1,q2])) (wkH mr_)
  ·exact Lp_re [some 0] (ih (false) g (by rw [all_snoc hx,← and_assoc,← hg,hr];simp [q1])) (wkH mr_)
 ·have e:i=n12:=by simp at g;omega
  rw [e,List.take_of_length_le (by omega)] at hg
  exact Lp_re [some 0] (h ok hg) (wkH mr_)
theorem rn54_2 (hM:BcM E x b11 n11 c11 b12 n12 c12 b13 n13 c13 b14 n14 c14 b16 n16 c16 b17 n17 c17 b18 n18 c18 b27 n27 c27 b28 n28 c28) (hn:n13<=1000000) (hi:i<=n13) (hg:ok=true↔ok0=true/\∀ r∈x.asks.take i,rowOK [(0,some (0,59)),(1,some (0,15)),(2,some (0,59))] r=true) (h:∀ v:Bool,(v=true↔ok0=true/\∀ r∈x.asks,rowOK [(0,some (0,59)),(1,some (0,15)),(2,some (0,59))] r=true)->Lp R2 8 Try.f54 [1,1,1,1,1,1,0,1,0] 0 (pubK E K) (sh54_3 x b11 n11 c11 b12 n12 c12 b13 n13 c13 b14 n14 c14 b16 n16 c16 b17 n17 c17 b18 n18 c18 b27 n27 c27 b28 n28 c28 v 0 E))
  (ih:∀ v:Bool,i<n13->(v=true↔ok0=true/\∀ r∈x.asks.take (i+1),rowOK [(0,some (0,59)),(1,some (0,15)),(2,some (0,59))] r=true)->Lp R2 8 Try.f54 [1,1,1,1,1,0,1,0] 0 (pubK E K) (sh54_2 x b11 n11 c11 b12 n12 c12 b13 n13 c13 b14 n14 c14 b16 n16 c16 b17 n17 c17 b18 n18 c18 b27 n27 c27 b28 n28 c28 v (i+1) E)):Rnd R2 8 Try.f54 [1,1,1,1,1,0,1,0] 0 (pubK E K) (sh54_2 x b11 n11 c11 b12 n12 c12 b13 n13 c13 b14 n14 c14 b16 n16 c16 b17 n17 c17 b18 n18 c18 b27 n27 c27 b28 n28 c28 ok i E):=by
 refine sm_ (?_:bif decide ((NI i)<(NI n13)) then req (0<=(NI i)/\(NI i)<(NI n13)) ((∃ (cs:List Value),E (VS b13 n13 c13) cs/\(cs=[]->False))/\∃ (n:Int),∃ (n_1:Int),LoadE R2.P E 93 (VS b13 n13 c13) (Int.toNat (NI i)*3+0) (SV.agg [I n,I n_1])/\req (0<=(NI i)/\(NI i)<(NI n13)) ((∃ (cs:List Value),E (VS b13 n13 c13) cs/\(cs=[]->False))/\∃ (n_2:Int),LoadE R2.P E 3 (VS b13 n13 c13) (Int.toNat (NI i)*3+2) (I n_2)/\∀ (v:Bool),(v=true↔inB n 0 (59:Int)=true/\inB n_1 0 (15:Int)=true/\inB n_2 0 (59:Int)=true)->Mem.le E E/\bif ok then Lp R2 8 Try.f54 [1,1,1,1,1,0,1,0] 0 (pubK E K) { fr:=none::oc 0 0::none::oB (bif true then v else false)::no4 (no2 (none::(oI (WI ((NI i)+1))::no32 (no32 (no32 (no32 (no32 (no8 [])))))))),bx:=[(⟨40,.lst (bcx x b11 n11 c11 b12 n12 c12 b13 n13 c13 b14 n14 c14 b16 n16 c16 b17 n17 c17 b18 n18 c18 b27 n27 c27 b28 n28 c28),30,true⟩:Box)],E:=E:St } else Lp R2 8 Try.f54 [1,1,1,1,1,0,1,0] 0 (pubK E K) { fr:=none::oc 0 0::none::oB false::no4 (no2 (none::(oI (WI ((NI i)+1))::no32 (no32 (no32 (no32 (no32 (no8 [])))))))),bx:=[(⟨40,.lst (bcx x b11 n11 c11 b12 n12 c12 b13 n13 c13 b14 n14 c14 b16 n16 c16 b17 n17 c17 b18 n18 c18 b27 n27 c27 b28 n28 c28),30,true⟩:Box)],E:=E:St })) else Lp R2 8 Try.f54 [1,1,1,1,1,1,0,1,0] 0 (pubK E K) { fr:=none::oc 0 0::none::oB ok::no4 (no2 (none::(oI (NI i)::none::oI 0::no32 (no32 (no32 (no4 (no2 (oI (NI i)::oc 0 13::oL b13 n13 c13::oI (NI n13)::oB (decide ((NI i)<(NI n13)))::no32 (no16 (no8 (no2 (none::[])))))))))))),bx:=[(⟨40,.lst (bcx x b11 n11 c11 b12 n12 c12 b13 n13 c13 b14 n14 c14 b16 n16 c16 b17 n17 c17 b18 n18 c18 b27 n27 c27 b28 n28 c28),30,true⟩:Box)],E:=E:St })
 delta WI NI VS no2 no4 no8 no16 no32 bcx
 have h0:=hM.h13
 have hl:=h0.len
 refine condC (fun g=>?_) (fun g=>?_)
 ·have g:i<n13:=by simpa using g
  have w:IntKind.wrap .i64 ((i:Int)+1)=((i+1:Nat):Int):=by rw [wrap_i64 (by omega)];omega
  obtain ⟨y,hx⟩:∃ y,x.asks[i]? =some y:=⟨_,List.getElem?_eq_getElem (by omega)⟩
  obtain ⟨a0,a1,a2,e0,l0⟩:=rowK3 (T:=99) h0 rfl rfl hx
  have hr:rowOK [(0,some (0,59)),(1,some (0,15)),(2,some (0,59))] y=true↔(inB a0 0 59=true/\inB a1 0 15=true/\inB a2 0 59=true):=by subst e0;simp [rowOK,inB];try omega
  subst e0
  refine req_intro (by omega) ⟨SL.ne (RK_ok .i64 (by decide)) h0 g,a0,a1,row_part (T:=93) (by decide) h0 rfl rfl (by decide) hx,req_intro (by omega) ⟨SL.ne (RK_ok .i64 (by decide)) h0 g,a2,RK_load (by decide) (T:=3) (by kernel_rfl) h0 hx 2 (by decide),fun v hv=>⟨mr_,?_⟩⟩⟩
  rw [← hv] at hr
  rw [w]
  refine condC (fun q1=>?_) (fun q1=>?_)
  ·exact Lp_re [some 0] (ih (v) g (by rw [all_snoc hx,← and_assoc,← hg,hr];simp [q1])) (wkH mr_)
  ·exact Lp_re [some 0] (ih (false) g (by rw [all_snoc hx,← and_assoc,← hg,hr];simp [q1])) (wkH mr_)
 ·have e:i=n13:=by simp at g;omega
  rw [e,List.take_of_length_le (by omega)] at hg
  exact Lp_re [some 0] (h ok hg) (wkH mr_)
theorem rn54_3 (hM:BcM E x b11 n11 c11 b12 n12 c12 b13 n13 c13 b14 n14 c14 b16 n16 c16 b17 n17 c17 b18 n18 c18 b27 n27 c27 b28 n28 c28) (hn:n14<=1000000) (hi:i<=n14) (hg:ok=true↔ok0=true/\∀ r∈x.below.take i,rowOK [(0,some (0,59)),(2,some (0,1000000000)),(1,none),(3,none)] r=true) (h:∀ v:Bool,(v=true↔ok0=true/\∀ r∈x.below,rowOK [(0,some (0,59)),(2,some (0,1000000000)),(1,none),(3,none)] r=true)->K (B v) E)
  (ih:∀ v:Bool,i<n14->(v=true↔ok0=true/\∀ r∈x.below.take (i+1),rowOK [(0,some (0,59)),(2,some (0,1000000000)),(1,none),(3,none)] r=true)->Lp R2 8 Try.f54 [1,1,1,1,1,1,0,1,0] 0 (pubK E K) (sh54_3 x b11 n11 c11 b12 n12 c12 b13 n13 c13 b14 n14 c14 b16 n16 c16 b17 n17 c17 b18 n18 c18 b27 n27 c27 b28 n28 c28 v (i+1) E)):Rnd R2 8 Try.f54 [1,1,1,1,1,1,0,1,0] 0 (pubK E K) (sh54_3 x b11 n11 c11 b12 n12 c12 b13 n13 c13 b14 n14 c14 b16 n16 c16 b17 n17 c17 b18 n18 c18 b27 n27 c27 b28 n28 c28 ok i E):=by
 refine sm_ (?_:bif decide ((NI i)<(NI n14)) then req (0<=(NI i)/\(NI i)<(NI n14)) ((∃ (cs:List Value),E (VS b14 n14 c14) cs/\(cs=[]->False))/\∃ (n:Int),∃ (n_1:Int),∃ (n_2:Int),∃ (n_3:Int),LoadE R2.P E 101 (VS b14 n14 c14) (Int.toNat (NI i)*4) (SV.agg [I n,I n_1,I n_2,I n_3])/\Mem.le E E/\bif ok then bif bif true then inB n_2 0 1000000000 else false then bif bif true then decide (n>=(0:Int)) else false then bif bif true then decide (n<=(59:Int)) else false then bif bif true then n_1==(0:Int) else false then Lp R2 8 Try.f54 [1,1,1,1,1,1,0,1,0] 0 (pubK E K) { fr:=none::oc 0 0::none::oB (bif true then n_3==(0:Int) else false)::no8 (none::(oI (WI ((NI i)+1))::no32 (no32 (no32 (no32 (no32 (no4 (no2 [])))))))),bx:=[(⟨40,.lst (bcx x b11 n11 c11 b12 n12 c12 b13 n13 c13 b14 n14 c14 b16 n16 c16 b17 n17 c17 b18 n18 c18 b27 n27 c27 b28 n28 c28),30,true⟩:Box),⟨101,.lst [I n,I n_1,I n_2,I n_3],4,true⟩],E:=E:St } else Lp R2 8 Try.f54 [1,1,1,1,1,1,0,1,0] 0 (pubK E K) { fr:=none::oc 0 0::none::oB false::no8 (none::(oI (WI ((NI i)+1))::no32 (no32 (no32 (no32 (no32 (no4 (no2 [])))))))),bx:=[(⟨40,.lst (bcx x b11 n11 c11 b12 n12 c12 b13 n13 c13 b14 n14 c14 b16 n16 c16 b17 n17 c17 b18 n18 c18 b27 n27 c27 b28 n28 c28),30,true⟩:Box),⟨101,.lst [I n,I n_1,I n_2,I n_3],4,true⟩],E:=E:St } else Lp R2 8 Try.f54 [1,1,1,1,1,1,0,1,0] 0 (pubK E K) { fr:=none::oc 0 0::none::oB false::no8 (none::(oI (WI ((NI i)+1))::no32 (no32 (no32 (no32 (no32 (no4 (no2 [])))))))),bx:=[(⟨40,.lst (bcx x b11 n11 c11 b12 n12 c12 b13 n13 c13 b14 n14 c14 b16 n16 c16 b17 n17 c17 b18 n18 c18 b27 n27 c27 b28 n28 c28),30,true⟩:Box),⟨101,.lst [I n,I n_1,I n_2,I n_3],4,true⟩],E:=E:St } else Lp R2 8 Try.f54 [1,1,1,1,1,1,0,1,0] 0 (pubK E K) { fr:=none::oc 0 0::none::oB false::no8 (none::(oI (WI ((NI i)+1))::no32 (no32 (no32 (no32 (no32 (no4 (no2 [])))))))),bx:=[(⟨40,.lst (bcx x b11 n11 c11 b12 n12 c12 b13 n13 c13 b14 n14 c14 b16 n16 c16 b17 n17 c17 b18 n18 c18 b27 n27 c27 b28 n28 c28),30,true⟩:Box),⟨101,.lst [I n,I n_1,I n_2,I n_3],4,true⟩],E:=E:St } else Lp R2 8 Try.f54 [1,1,1,1,1,1,0,1,0] 0 (pubK E K) { fr:=none::oc 0 0::none::oB false::no8 (none::(oI (WI ((NI i)+1))::no32 (no32 (no32 (no32 (no32 (no4 (no2 [])))))))),bx:=[(⟨40,.lst (bcx x b11 n11 c11 b12 n12 c12 b13 n13 c13 b14 n14 c14 b16 n16 c16 b17 n17 c17 b18 n18 c18 b27 n27 c27 b28 n28 c28),30,true⟩:Box),⟨101,.lst [I n,I n_1,I n_2,I n_3],4,true⟩],E:=E:St } else Lp R2 8 Try.f54 [1,1,1,1,1,1,0,1,0] 0 (pubK E K) { fr:=none::oc 0 0::none::oB false::no8 (none::(oI (WI ((NI i)+1))::no32 (no32 (no32 (no32 (no32 (no4 (no2 [])))))))),bx:=[(⟨40,.lst (bcx x b11 n11 c11 b12 n12 c12 b13 n13 c13 b14 n14 c14 b16 n16 c16 b17 n17 c17 b18 n18 c18 b27 n27 c27 b28 n28 c28),30,true⟩:Box),⟨101,.lst [I n,I n_1,I n_2,I n_3],4,true⟩],E:=E:St }) else Mem.le E E/\K (B ok) E)
 delta WI NI VS no2 no4 no8 no32 bcx
 have h0:=hM.h14
 have hl:=h0.len
 refine condC (fun g=>?_) (fun g=>?_)
 ·have g:i<n14:=by simpa using g
  have w:IntKind.wrap .i64 ((i:Int)+1)=((i+1:Nat):Int):=by rw [wrap_i64 (by omega)];omega
  obtain ⟨y,hx⟩:∃ y,x.below[i]? =some y:=⟨_,List.getElem?_eq_getElem (by omega)⟩
  obtain ⟨a0,a1,a2,a3,e0,l0⟩:=rowK4 (T:=101) h0 rfl rfl hx
  have hr:rowOK [(0,some (0,59)),(2,some (0,1000000000)),(1,none),(3,none)] y=true↔inB a2 0 1000000000=true/\0<=a0/\a0<=59/\a1=0/\a3=0:=by subst e0;simp [rowOK,inB];omega
  subst e0
  refine req_intro (by omega) ⟨SL.ne (RK_ok .i64 (by decide)) h0 g,a0,a1,a2,a3,l0,mr_,?_⟩
  rw [w]
  refine condC (fun q1=>condC (fun q2=>condC (fun q3=>condC (fun q4=>condC (fun q5=>?_) (fun q5=>?_)) (fun q4=>?_)) (fun q3=>?_)) (fun q2=>?_)) (fun q1=>?_)
  ·exact Lp_re [some 0] (ih (a3==0) g (by rw [all_snoc hx,← and_assoc,← hg,hr];simp at q2 q3 q4 q5;simp [q1,q2,q3,q4,q5])) (wkH mr_)
  ·exact Lp_re [some 0] (ih (false) g (by rw [all_snoc hx,← and_assoc,← hg,hr];simp at q2 q3 q4 q5;simp [q1,q2,q3,q4,q5])) (wkH mr_)
  ·exact Lp_re [some 0] (ih (false) g (by rw [all_snoc hx,← and_assoc,← hg,hr];simp at q2 q3 q4;simp [q1,q2,q3];intro z;omega)) (wkH mr_)
  ·exact Lp_re [some 0] (ih (false) g (by rw [all_snoc hx,← and_assoc,← hg,hr];simp at q2 q3;simp [q1,q2];intro z;omega)) (wkH mr_)
  ·exact Lp_re [some 0] (ih (false) g (by rw [all_snoc hx,← and_assoc,← hg,hr];simp at q2;simp [q1,q2])) (wkH mr_)
  ·exact Lp_re [some 0] (ih (false) g (by rw [all_snoc hx,← and_assoc,← hg,hr];simp [q1])) (wkH mr_)
 ·have e:i=n14:=by simp at g;omega
  rw [e,List.take_of_length_le (by omega)] at hg
  exact ⟨mr_,h ok hg⟩
theorem lp54_0 (hM:BcM E x b11 n11 c11 b12 n12 c12 b13 n13 c13 b14 n14 c14 b16 n16 c16 b17 n17 c17 b18 n18 c18 b27 n27 c27 b28 n28 c28) (hn:n11<=1000000) (h:∀ v:Bool,(v=true↔ok0=true/\∀ r∈x.uses,rowOK [(0,some (0,59)),(1,some (0,15)),(2,some (0,59)),(3,some (0,1000000000))] r=true)->Lp R2 8 Try.f54 [1,1,1,1,0,1,0] 0 (pubK E K) (sh54_1 x b11 n11 c11 b12 n12 c12 b13 n13 c13 b14 n14 c14 b16 n16 c16 b17 n17 c17 b18 n18 c18 b27 n27 c27 b28 n28 c28 v 0 E)):Lp R2 8 Try.f54 [1,1,1,0,1,0] 0 (pubK E K) (sh54_0 x b11 n11 c11 b12 n12 c12 b13 n13 c13 b14 n14 c14 b16 n16 c16 b17 n17 c17 b18 n18 c18 b27 n27 c27 b28 n28 c28 ok0 0 E):=
 Lp_ind okR2 (fun z:{p:Nat×Bool//p.1<=n11/\(p.2=true↔ok0=true/\∀ r∈x.uses.take p.1,rowOK [(0,some (0,59)),(1,some (0,15)),(2,some (0,59)),(3,some (0,1000000000))] r=true)}=>sh54_0 x b11 n11 c11 b12 n12 c12 b13 n13 c13 b14 n14 c14 b16 n16 c16 b17 n17 c17 b18 n18 c18 b27 n27 c27 b28 n28 c28 z.1.2 z.1.1 E) (fun z=>n11-z.1.1) (fun z ih=>rn54_0 hM hn z.2.1 z.2.2 h fun v g hv=>ih ⟨(z.1.1+1,v),g,hv⟩ (by show n11-(_+1)<n11-_;omega)) ⟨(0,ok0),Nat.zero_le _,by simp⟩
theorem lp54_1 (hM:BcM E x b11 n11 c11 b12 n12 c12 b13 n13 c13 b14 n14 c14 b16 n16 c16 b17 n17 c17 b18 n18 c18 b27 n27 c27 b28 n28 c28) (hn:n12<=1000000) (h:∀ v:Bool,(v=true↔ok0=true/\∀ r∈x.grants,rowOK [(0,some (0,59)),(1,some (0,15)),(2,some (0,59)),(3,some (0,1000000000)),(4,some (0,1000000000))] r=true)->Lp R2 8 Try.f54 [1,1,1,1,1,0,1,0] 0 (pubK E K) (sh54_2 x b11 n11 c11 b12 n12 c12 b13 n13 c13 b14 n14 c14 b16 n16 c16 b17 n17 c17 b18 n18 c18 b27 n27 c27 b28 n28 c28 v 0 E)):Lp R2 8 Try.f54 [1,1,1,1,0,1,0] 0 (pubK E K) (sh54_1 x b11 n11 c11 b12 n12 c12 b13 n13 c13 b14 n14 c14 b16 n16 c16 b17 n17 c17 b18 n18 c18 b27 n27 c27 b28 n28 c28 ok0 0 E):=
 Lp_ind okR2 (fun z:{p:Nat×Bool//p.1<=n12/\(p.2=true↔ok0=true/\∀ r∈x.grants.take p.1,rowOK [(0,some (0,59)),(1,some (0,15)),(2,some (0,59)),(3,some (0,1000000000)),(4,some (0,1000000000))] r=true)}=>sh54_1 x b11 n11 c11 b12 n12 c12 b13 n13 c13 b14 n14 c14 b16 n16 c16 b17 n17 c17 b18 n18 c18 b27 n27 c27 b28 n28 c28 z.1.2 z.1.1 E) (fun z=>n12-z.1.1) (fun z ih=>rn54_1 hM hn z.2.1 z.2.2 h fun v g hv=>ih ⟨(z.1.1+1,v),g,hv⟩ (by show n12-(_+1)<n12-_;omega)) ⟨(0,ok0),Nat.zero_le _,by simp⟩
theorem lp54_2 (hM:BcM E x b11 n11 c11 b12 n12 c12 b13 n13 c13 b14 n14 c14 b16 n16 c16 b17 n17 c17 b18 n18 c18 b27 n27 c27 b28 n28 c28) (hn:n13<=1000000) (h:∀ v:Bool,(v=true↔ok0=true/\∀ r∈x.asks,rowOK [(0,some (0,59)),(1,some (0,15)),(2,some (0,59))] r=true)->Lp R2 8 Try.f54 [1,1,1,1,1,1,0,1,0] 0 (pubK E K) (sh54_3 x b11 n11 c11 b12 n12 c12 b13 n13 c13 b14 n14 c14 b16 n16 c16 b17 n17 c17 b18 n18 c18 b27 n27 c27 b28 n28 c28 v 0 E)):Lp R2 8 Try.f54 [1,1,1,1,1,0,1,0] 0 (pubK E K) (sh54_2 x b11 n11 c11 b12 n12 c12 b13 n13 c13 b14 n14 c14 b16 n16 c16 b17 n17 c17 b18 n18 c18 b27 n27 c27 b28 n28 c28 ok0 0 E):=
 Lp_ind okR2 (fun z:{p:Nat×Bool//p.1<=n13/\(p.2=true↔ok0=true/\∀ r∈x.asks.take p.1,rowOK [(0,some (0,59)),(1,some (0,15)),(2,some (0,59))] r=true)}=>sh54_2 x b11 n11 c11 b12 n12 c12 b13 n13 c13 b14 n14 c14 b16 n16 c16 b17 n17 c17 b18 n18 c18 b27 n27 c27 b28 n28 c28 z.1.2 z.1.1 E) (fun z=>n13-z.1.1) (fun z ih=>rn54_2 hM hn z.2.1 z.2.2 h fun v g hv=>ih ⟨(z.1.1+1,v),g,hv⟩ (by show n13-(_+1)<n13-_;omega)) ⟨(0,ok0),Nat.zero_le _,by simp⟩
theorem lp54_3 (hM:BcM E x b11 n11 c11 b12 n12 c12 b13 n13 c13 b14 n14 c14 b16 n16 c16 b17 n17 c17 b18 n18 c18 b27 n27 c27 b28 n28 c28) (hn:n14<=1000000) (h:∀ v:Bool,(v=true↔ok0=true/\∀ r∈x.below,rowOK [(0,some (0,59)),(2,some (0,1000000000)),(1,none),(3,none)] r=true)->K (B v) E):Lp R2 8 Try.f54 [1,1,1,1,1,1,0,1,0] 0 (pubK E K) (sh54_3 x b11 n11 c11 b12 n12 c12 b13 n13 c13 b14 n14 c14 b16 n16 c16 b17 n17 c17 b18 n18 c18 b27 n27 c27 b28 n28 c28 ok0 0 E):=
 Lp_ind okR2 (fun z:{p:Nat×Bool//p.1<=n14/\(p.2=true↔ok0=true/\∀ r∈x.below.take p.1,rowOK [(0,some (0,59)),(2,some (0,1000000000)),(1,none),(3,none)] r=true)}=>sh54_3 x b11 n11 c11 b12 n12 c12 b13 n13 c13 b14 n14 c14 b16 n16 c16 b17 n17 c17 b18 n18 c18 b27 n27 c27 b28 n28 c28 z.1.2 z.1.1 E) (fun z=>n14-z.1.1) (fun z ih=>rn54_3 hM hn z.2.1 z.2.2 h fun v g hv=>ih ⟨(z.1.1+1,v),g,hv⟩ (by show n14-(_+1)<n14-_;omega)) ⟨(0,ok0),Nat.zero_le _,by simp⟩
theorem ss54 (hM:BcM E x b11 n11 c11 b12 n12 c12 b13 n13 c13 b14 n14 c14 b16 n16 c16 b17 n17 c17 b18 n18 c18 b27 n27 c27 b28 n28 c28) (hs:BcSm x) (h:∀ v:Bool,(v=true↔((x.uses.length:Int)<=24/\∀ r∈x.uses,rowOK [(0,some (0,59)),(1,some (0,15)),(2,some (0,59)),(3,some (0,1000000000))] r=true)/\((x.grants.length:Int)<=24/\∀ r∈x.grants,rowOK [(0,some (0,59)),(1,some (0,15)),(2,some (0,59)),(3,some (0,1000000000)),(4,some (0,1000000000))] r=true)/\((x.asks.length:Int)<=24/\∀ r∈x.asks,rowOK [(0,some (0,59)),(1,some (0,15)),(2,some (0,59))] r=true)/\((x.below.length:Int)<=60/\∀ r∈x.below,rowOK [(0,some (0,59)),(2,some (0,1000000000)),(1,none),(3,none)] r=true))->K (B v) E):Ent R2 8 Try.f54 [.agg [I x.from_,I x.asn,I x.boot,I x.hops,I x.bound,I x.fresh,I x.seq,I x.rank,I x.parent,I x.first,I x.next,L b11 n11 c11,L b12 n12 c12,L b13 n13 c13,L b14 n14 c14,B x.full,L b16 n16 c16,L b17 n17 c17,L b18 n18 c18,I x.nver,I x.size,.raw (.int .u64 x.dig),I x.start,I x.pages,I x.version,I x.page,I x.seed,L b27 n27 c27,L b28 n28 c28,B x.has]] E K:=by
 refine sm_ (?_:bif decide ((NI n11)>24) then Mem.le E E/\K (B false) E else bif bif false then true else decide ((NI n12)>24) then Mem.le E E/\K (B false) E else bif bif false then true else decide ((NI n13)>24) then Mem.le E E/\K (B false) E else bif bif false then true else decide ((NI n14)>60) then Mem.le E E/\K (B false) E else Lp R2 8 Try.f54 [1,1,1,0,1,0] 0 (pubK E K) { fr:=some (SV.agg (bcx x b11 n11 c11 b12 n12 c12 b13 n13 c13 b14 n14 c14 b16 n16 c16 b17 n17 c17 b18 n18 c18 b27 n27 c27 b28 n28 c28))::oc 0 0::oB false::oB true::oI 0::no8 (no2 (none::(oc 0 11::oL b11 n11 c11::oI (NI n11)::oB (decide ((NI n11)>24))::oB false::oc 0 12::oL b12 n12 c12::oI (NI n12)::oB (decide ((NI n12)>24))::oB (bif false then true else decide ((NI n12)>24))::oB false::oc 0 13::oL b13 n13 c13::oI (NI n13)::oB (decide ((NI n13)>24))::oB (bif false then true else decide ((NI n13)>24))::oB false::oc 0 14::oL b14 n14 c14::oI (NI n14)::oB (decide ((NI n14)>60))::oB (bif false then true else decide ((NI n14)>60))::no32 (no32 (no32 (no32 (no8 (no4 (no2 []))))))))),bx:=[(⟨40,.lst (bcx x b11 n11 c11 b12 n12 c12 b13 n13 c13 b14 n14 c14 b16 n16 c16 b17 n17 c17 b18 n18 c18 b27 n27 c27 b28 n28 c28),30,true⟩:Box)],E:=E:St })
 delta NI no2 no4 no8 no32 bcx
 have r11:=hM.h11.len
 have r12:=hM.h12.len
 have r13:=hM.h13.len
 have r14:=hM.h14.len
 have t11:=hs.l11
 have t12:=hs.l12
 have t13:=hs.l13
 have t14:=hs.l14
 have no:(¬ ((x.uses.length:Int)<=24/\(x.grants.length:Int)<=24/\(x.asks.length:Int)<=24/\(x.below.length:Int)<=60))->Mem.le E E/\K (B false) E:=fun q=>⟨mr_,h false ⟨fun e=>(by cases e),fun e=>absurd ⟨e.1.1,e.2.1.1,e.2.2.1.1,e.2.2.2.1⟩ q⟩⟩
 refine condC (fun q=>no (by simp at q;omega)) (fun q0=>?_)
 refine condC (fun q=>no (by simp at q;omega)) (fun q1=>?_)
 refine condC (fun q=>no (by simp at q;omega)) (fun q2=>?_)
 refine condC (fun q=>no (by simp at q;omega)) (fun q3=>?_)
 simp at q0 q1 q2 q3
 refine Lp_re [some 0] (lp54_0 (ok0:=true) hM (by omega) fun v0 h0=>lp54_1 hM (by omega) fun v1 h1=>lp54_2 hM (by omega) fun v2 h2=>lp54_3 hM (by omega) fun v3 h3=>h v3 ?_) (wkH mr_)
 rw [h3,h2,h1,h0]
 constructor
 ·rintro ⟨⟨⟨⟨_,k0⟩,k1⟩,k2⟩,k3⟩
  exact ⟨⟨by omega,k0⟩,⟨by omega,k1⟩,⟨by omega,k2⟩,⟨by omega,k3⟩⟩
 ·rintro ⟨⟨_,k0⟩,⟨_,k1⟩,⟨_,k2⟩,⟨_,k3⟩⟩
  exact ⟨⟨⟨⟨rfl,k0⟩,k1⟩,k2⟩,k3⟩
structure TabG (x:Bc) (v:Bool):Prop where
 eq:v=true↔((x.uses.length:Int)<=24/\∀ r∈x.uses,rowOK [(0,some (0,59)),(1,some (0,15)),(2,some (0,59)),(3,some (0,1000000000))] r=true)/\((x.grants.length:Int)<=24/\∀ r∈x.grants,rowOK [(0,some (0,59)),(1,some (0,15)),(2,some (0,59)),(3,some (0,1000000000)),(4,some (0,1000000000))] r=true)/\((x.asks.length:Int)<=24/\∀ r∈x.asks,rowOK [(0,some (0,59)),(1,some (0,15)),(2,some (0,59))] r=true)/\((x.below.length:Int)<=60/\∀ r∈x.below,rowOK [(0,some (0,59)),(2,some (0,1000000000)),(1,none),(3,none)] r=true)
structure PrgG (x:Bc) (v:Bool):Prop where
 eq:v=true↔(inB x.nver 0 1000000000=true/\inB x.size 0 4096=true/\inB x.start 0 1000000000=true/\inB x.pages 0 16=true/\inB x.version 0 1000000000=true)/\(if x.has=true then GoodB x else x.page=0/\x.seed=0/\x.data.length=0/\x.proof.length=0)
structure WrdG (xs:List (List Int)) (m:Int) (v:Bool):Prop where
 eq:v=true↔(xs.length:Int)<=m/\∀ r∈xs,rowOK [(0,some (1,4)),(1,some (0,59)),(2,some (-1,59)),(3,some (0,10000000000000)),(4,some (0,10000000000000)),(5,some (0,2000000)),(6,some (0,500002)),(7,some (0,500002))] r=true
noncomputable def tabV2:FuncId->List SV->Mem->(SV->Mem->Prop)->Prop:=fun f args E K=>match f with
 | 54=>d1 args fun x0=>∃ x:Bc,(BcV E x0 x/\BcSm x)/\∀ v:Bool,TabG x v->K (B v) E
 | 55=>d2 args fun x0 x1=>dS x0 fun b n c=>dI x1 fun m=>∃ xs,(SL (RK .i64 8) E b n c xs/\n<=1000000)/\∀ v:Bool,WrdG xs m v->K (B v) E
 | 56=>d1 args fun x0=>∃ x:Bc,BcV E x0 x/\∀ v:Bool,PrgG x v->K (B v) E
 | f=>tabV f args E K
theorem tabV2_ok:TabOK Try.prog tabV2:=by
 intro f args E K h
 unfold tabV2 at h
 split at h
 ·obtain ⟨x0,rfl,x,⟨hx,hs⟩,hk⟩:=d1_elim h
  obtain ⟨b11,n11,c11,b12,n12,c12,b13,n13,c13,b14,n14,c14,b16,n16,c16,b17,n17,c17,b18,n18,c18,b27,n27,c27,b28,n28,c28,rfl,M⟩:=hx.ex
  exact esm okR2 Try.func54 rfl (ss54 M hs fun v hv=>hk v ⟨hv⟩)
 ·obtain ⟨x0,x1,rfl,h1⟩:=d2_elim h
  obtain ⟨b,n,c,rfl,h2⟩:=dS_elim h1
  obtain ⟨m,rfl,xs,⟨hx,hn⟩,hk⟩:=dI_elim h2
  have hl:=hx.len
  exact esm okR2 Try.func55 rfl (ss55 hx hn fun v hv=>hk v ⟨by rw [hl];exact hv⟩)
 ·obtain ⟨x0,rfl,x,hx,hk⟩:=d1_elim h
  obtain ⟨b11,n11,c11,b12,n12,c12,b13,n13,c13,b14,n14,c14,b16,n16,c16,b17,n17,c17,b18,n18,c18,b27,n27,c27,b28,n28,c28,rfl,M⟩:=hx.ex
  exact esm okR1 Try.func56 rfl (ss56 M fun v hv=>hk v ⟨hv⟩)
 ·exact tabV_ok _ _ _ _ h
theorem valid_iff:(enc x).2=false↔(inB x.from_ 0 59=true/\inB x.asn 0 1000000000=true/\inB x.boot 0 1000000000=true/\inB x.hops 0 60=true/\inB x.bound 0 2000=true/\inB x.fresh 0 1000000000=true/\inB x.seq 0 1000000000=true/\inB x.rank 0 1000000=true/\inB x.parent (-1) 59=true)/\(∀ r∈x.got,rowOK [(0,some (0,59))] r=true)/\(inB x.first 0 500002=true/\inB x.next 0 500002=true)/\(((x.uses.length:Int)<=24/\∀ r∈x.uses,rowOK [(0,some (0,59)),(1,some (0,15)),(2,some (0,59)),(3,some (0,1000000000))] r=true)/\((x.grants.length:Int)<=24/\∀ r∈x.grants,rowOK [(0,some (0,59)),(1,some (0,15)),(2,some (0,59)),(3,some (0,1000000000)),(4,some (0,1000000000))] r=true)/\((x.asks.length:Int)<=24/\∀ r∈x.asks,rowOK [(0,some (0,59)),(1,some (0,15)),(2,some (0,59))] r=true)/\((x.below.length:Int)<=60/\∀ r∈x.below,rowOK [(0,some (0,59)),(2,some (0,1000000000)),(1,none),(3,none)] r=true))/\((x.words.length:Int)<=4/\∀ r∈x.words,rowOK [(0,some (1,4)),(1,some (0,59)),(2,some (-1,59)),(3,some (0,10000000000000)),(4,some (0,10000000000000)),(5,some (0,2000000)),(6,some (0,500002)),(7,some (0,500002))] r=true)/\((x.mail.length:Int)<=1/\∀ r∈x.mail,rowOK [(0,some (1,4)),(1,some (0,59)),(2,some (-1,59)),(3,some (0,10000000000000)),(4,some (0,10000000000000)),(5,some (0,2000000)),(6,some (0,500002)),(7,some (0,500002))] r=true)/\((inB x.nver 0 1000000000=true/\inB x.size 0 4096=true/\inB x.start 0 1000000000=true/\inB x.pages 0 16=true/\inB x.version 0 1000000000=true)/\(if x.has=true then GoodB x else x.page=0/\x.seed=0/\x.data.length=0/\x.proof.length=0))/\(x.got.length:Int)<=60:=by
 rw [enc_iff]
 simp only [inB_iff]
 constructor
 ·rintro ⟨⟨h_from_,h_asn,h_boot,h_hops,h_bound,h_fresh,h_seq,h_rank,h_parent,h_first,h_next,h_uses,h_grants,h_asks,h_below,h_words,h_mail,h_got,h_nver,h_size,h_start,h_pages,h_version⟩,hB⟩
  exact ⟨⟨h_from_,h_asn,h_boot,h_hops,h_bound,h_fresh,h_seq,h_rank,h_parent⟩,h_got.2,⟨h_first,h_next⟩,⟨h_uses,h_grants,h_asks,h_below⟩,h_words,h_mail,⟨⟨h_nver,h_size,h_start,h_pages,h_version⟩,hB⟩,h_got.1⟩
 ·rintro ⟨⟨h_from_,h_asn,h_boot,h_hops,h_bound,h_fresh,h_seq,h_rank,h_parent⟩,hg,⟨h_first,h_next⟩,⟨h_uses,h_grants,h_asks,h_below⟩,h_words,h_mail,⟨⟨h_nver,h_size,h_start,h_pages,h_version⟩,hB⟩,hg2⟩
  have h_got:=And.intro hg2 hg
  exact ⟨⟨h_from_,h_asn,h_boot,h_hops,h_bound,h_fresh,h_seq,h_rank,h_parent,h_first,h_next,h_uses,h_grants,h_asks,h_below,h_words,h_mail,h_got,h_nver,h_size,h_start,h_pages,h_version⟩,hB⟩
noncomputable def R3:Cx:={ P:=Try.prog,inl:=fun f=>List.contains [] f,tab:=tabV2,isB:=fun _=>false,tabB:=fun _ _ _ _ _=>False,opt:={ unroll:=0,carry:=[12] },muts:=mutsD }
theorem okR3:CxOK R3:=CxOK.four tabV2_ok (by kernel_rfl) (okInl (by kernel_rfl)) (fun _ _ _ _ _ h=>h.elim)
def sh28 (x:Bc) (b11:Option Addr) (n11 c11:Nat) (b12:Option Addr) (n12 c12:Nat) (b13:Option Addr) (n13 c13:Nat) (b14:Option Addr) (n14 c14:Nat) (b16:Option Addr) (n16 c16:Nat) (b17:Option Addr) (n17 c17:Nat) (b18:Option Addr) (n18 c18:Nat) (b27:Option Addr) (n27 c27:Nat) (b28:Option Addr) (n28 c28:Nat) (i:Nat) (E:Mem):St:=⟨[none,oc 0 0,none,none,none,none,none,none,none,none,none,none,oI (i:Nat)]++List.replicate 116 none,[⟨40,.lst [I x.from_,I x.asn,I x.boot,I x.hops,I x.bound,I x.fresh,I x.seq,I x.rank,I x.parent,I x.first,I x.next,L b11 n11 c11,L b12 n12 c12,L b13 n13 c13,L b14 n14 c14,B x.full,L b16 n16 c16,L b17 n17 c17,L b18 n18 c18,I x.nver,I x.size,.raw (.int .u64 x.dig),I x.start,I x.pages,I x.version,I x.page,I x.seed,L b27 n27 c27,L b28 n28 c28,B x.has],30,true⟩],E⟩
theorem rn28 (hM:BcM E x b11 n11 c11 b12 n12 c12 b13 n13 c13 b14 n14 c14 b16 n16 c16 b17 n17 c17 b18 n18 c18 b27 n27 c27 b28 n28 c28) (hs:BcSm x) (hi:i<=n18) (hg:∀ r∈x.got.take i,rowOK [(0,some (0,59))] r=true)
  (ha:inB x.from_ 0 59=true/\inB x.asn 0 1000000000=true/\inB x.boot 0 1000000000=true/\inB x.hops 0 60=true/\inB x.bound 0 2000=true/\inB x.fresh 0 1000000000=true/\inB x.seq 0 1000000000=true/\inB x.rank 0 1000000=true/\inB x.parent (-1) 59=true)
  (h:∀ v:Bool,(v=true↔(enc x).2=false)->K (B v) E)
  (ih:i<n18->(∀ r∈x.got.take (i+1),rowOK [(0,some (0,59))] r=true)->Lp R3 8 Try.f28 [1,1,1,1,1,1,1,1,1,1,1,0,1,0] 0 (pubK E K) (sh28 x b11 n11 c11 b12 n12 c12 b13 n13 c13 b14 n14 c14 b16 n16 c16 b17 n17 c17 b18 n18 c18 b27 n27 c27 b28 n28 c28 (i+1) E)):Rnd R3 8 Try.f28 [1,1,1,1,1,1,1,1,1,1,1,0,1,0] 0 (pubK E K) (sh28 x b11 n11 c11 b12 n12 c12 b13 n13 c13 b14 n14 c14 b16 n16 c16 b17 n17 c17 b18 n18 c18 b27 n27 c27 b28 n28 c28 i E):=by
 refine sm_ (?_:bif decide ((NI i)<(NI n18)) then req (0<=(NI i)/\(NI i)<(NI n18)) ((∃ (cs:List Value),E (VS b18 n18 c18) cs/\(cs=[]->False))/\∃ (n:Int),LoadE R3.P E 3 (VS b18 n18 c18) (Int.toNat (NI i)*1) (I n)/\Mem.le E E/\bif !inB n 0 59 then Mem.le E E/\K (B false) E else Lp R3 8 Try.f28 [1,1,1,1,1,1,1,1,1,1,1,0,1,0] 0 (pubK E K) { fr:=none::oc 0 0::no8 (no2 (oI (WI ((NI i)+1))::no32 (no32 (no32 (no16 (no4 [])))))),bx:=[(⟨40,.lst (bcx x b11 n11 c11 b12 n12 c12 b13 n13 c13 b14 n14 c14 b16 n16 c16 b17 n17 c17 b18 n18 c18 b27 n27 c27 b28 n28 c28),30,true⟩:Box)],E:=E:St }) else ∀ (v:Bool),(v=true↔inB x.first 0 (500002:Int)=true/\inB x.next 0 (500002:Int)=true)->Mem.le E E/\∃ (x_1:Bc),(BcV E (SV.agg (bcx x b11 n11 c11 b12 n12 c12 b13 n13 c13 b14 n14 c14 b16 n16 c16 b17 n17 c17 b18 n18 c18 b27 n27 c27 b28 n28 c28)) x_1/\BcSm x_1)/\∀ (v_1:Bool),TabG x_1 v_1->Mem.le E E/\∃ (xs:List (List Int)),(SL (RK IntKind.i64 8) E b16 n16 c16 xs/\n16<=1000000)/\∀ (v_2:Bool),WrdG xs 4 v_2->Mem.le E E/\∃ (xs:List (List Int)),(SL (RK IntKind.i64 8) E b17 n17 c17 xs/\n17<=1000000)/\∀ (v_3:Bool),WrdG xs 1 v_3->Mem.le E E/\∃ (x_2:Bc),BcV E (SV.agg (bcx x b11 n11 c11 b12 n12 c12 b13 n13 c13 b14 n14 c14 b16 n16 c16 b17 n17 c17 b18 n18 c18 b27 n27 c27 b28 n28 c28)) x_2/\∀ (v_4:Bool),PrgG x_2 v_4->Mem.le E E/\bif v then bif bif true then v_1 else false then bif bif true then v_2 else false then bif bif true then v_3 else false then bif bif true then v_4 else false then Mem.le E E/\K (B (bif true then decide ((NI n18)<=60) else false)) E else Mem.le E E/\K (B false) E else Mem.le E E/\K (B false) E else Mem.le E E/\K (B false) E else Mem.le E E/\K (B false) E else Mem.le E E/\K (B false) E)
 delta WI NI VS no2 no4 no8 no16 no32 bcx
 have h0:=hM.h18
 have hl:=h0.len
 have tl:=hs.l18
 have no:¬ (enc x).2=false->Mem.le E E/\K (B false) E:=fun q=>⟨mr_,h false ⟨fun e=>(by cases e),fun e=>absurd e q⟩⟩
 refine condC (fun g=>?_) (fun g=>?_)
 ·have g:i<n18:=by simpa using g
  have w:IntKind.wrap .i64 ((i:Int)+1)=((i+1:Nat):Int):=by rw [wrap_i64 (by omega)];omega
  obtain ⟨y,hx⟩:∃ y,x.got[i]? =some y:=⟨_,List.getElem?_eq_getElem (by omega)⟩
  have hr:rowOK [(0,some (0,59))] y=true↔inB (y.getD 0 0) 0 59=true:=by simp [rowOK,inB]
  refine req_intro (by omega) ⟨SL.ne (RK_ok .i64 (by decide)) h0 g,_,RK_load (by decide) (T:=3) (by kernel_rfl) h0 hx 0 (by decide),mr_,condC (fun q=>no (fun z=>?_)) (fun q=>?_)⟩
  ·have:=hr.1 ((valid_iff.1 z).2.1 y (List.mem_of_getElem? hx))
   rw [this] at q;cases q
  rw [w]
  exact Lp_re [some 0] (ih g ((all_snoc hx).2 ⟨hg,hr.2 (by simpa using q)⟩)) (wkH mr_)
 ·have e:i=n18:=by simp at g;omega
  rw [e,List.take_of_length_le (by omega)] at hg
  have hV:BcV E (.agg [I x.from_,I x.asn,I x.boot,I x.hops,I x.bound,I x.fresh,I x.seq,I x.rank,I x.parent,I x.first,I x.next,L b11 n11 c11,L b12 n12 c12,L b13 n13 c13,L b14 n14 c14,B x.full,L b16 n16 c16,L b17 n17 c17,L b18 n18 c18,I x.nver,I x.size,.raw (.int .u64 x.dig),I x.start,I x.pages,I x.version,I x.page,I x.seed,L b27 n27 c27,L b28 n28 c28,B x.has]) x:=⟨⟨b11,n11,c11,b12,n12,c12,b13,n13,c13,b14,n14,c14,b16,n16,c16,b17,n17,c17,b18,n18,c18,b27,n27,c27,b28,n28,c28,rfl,hM⟩⟩
  have t16:=hs.l16
  have t17:=hs.l17
  have p16:=hM.h16.len
  have p17:=hM.h17.len
  refine fun v hv=>⟨mr_,x,⟨hV,hs⟩,fun v1 h1=>⟨mr_,x.words,⟨hM.h16,by omega⟩,fun v2 h2=>⟨mr_,x.mail,⟨hM.h17,by omega⟩,fun v3 h3=>⟨mr_,x,hV,fun v4 h4=>⟨mr_,?_⟩⟩⟩⟩⟩
  refine condC (fun q0=>condC (fun q1=>condC (fun q2=>condC (fun q3=>condC (fun q4=>?_) (fun q=>no (fun z=>?_))) (fun q=>no (fun z=>?_))) (fun q=>no (fun z=>?_))) (fun q=>no (fun z=>?_))) (fun q=>no (fun z=>?_))
  ·refine ⟨mr_,h _ ?_⟩
   rw [valid_iff]
   have k1:=h1.eq.1 q1
   have k2:=h2.eq.1 q2
   have k3:=h3.eq.1 q3
   have k4:=h4.eq.1 q4
   have k0:=hv.1 q0
   simp only [cond_true,decide_eq_true_eq]
   exact ⟨fun z=>⟨ha,hg,k0,k1,k2,k3,k4,by omega⟩,fun z=>by have:=z.2.2.2.2.2.2.2;omega⟩
  ·have:=h4.eq.2 (valid_iff.1 z).2.2.2.2.2.2.1;rw [this] at q;cases q
  ·have:=h3.eq.2 (valid_iff.1 z).2.2.2.2.2.1;rw [this] at q;cases q
  ·have:=h2.eq.2 (valid_iff.1 z).2.2.2.2.1;rw [this] at q;cases q
  ·have:=h1.eq.2 (valid_iff.1 z).2.2.2.1;rw [this] at q;cases q
  ·have:=hv.2 (valid_iff.1 z).2.2.1;rw [this] at q;cases q
theorem ss28 (hM:BcM E x b11 n11 c11 b12 n12 c12 b13 n13 c13 b14 n14 c14 b16 n16 c16 b17 n17 c17 b18 n18 c18 b27 n27 c27 b28 n28 c28) (hs:BcSm x) (h:∀ v:Bool,(v=true↔(enc x).2=false)->K (B v) E):Ent R3 8 Try.f28 [.agg [I x.from_,I x.asn,I x.boot,I x.hops,I x.bound,I x.fresh,I x.seq,I x.rank,I x.parent,I x.first,I x.next,L b11 n11 c11,L b12 n12 c12,L b13 n13 c13,L b14 n14 c14,B x.full,L b16 n16 c16,L b17 n17 c17,L b18 n18 c18,I x.nver,I x.size,.raw (.int .u64 x.dig),I x.start,I x.pages,I x.version,I x.page,I x.seed,L b27 n27 c27,L b28 n28 c28,B x.has]] E K:=by
 refine sm_ (?_:Mem.le E E/\Mem.le E E/\Mem.le E E/\Mem.le E E/\Mem.le E E/\Mem.le E E/\Mem.le E E/\Mem.le E E/\Mem.le E E/\bif !inB x.from_ 0 59 then Mem.le E E/\K (B false) E else bif bif false then true else !inB x.boot 0 1000000000 then Mem.le E E/\K (B false) E else bif bif false then true else !inB x.hops 0 60 then Mem.le E E/\K (B false) E else bif bif false then true else !inB x.bound 0 2000 then Mem.le E E/\K (B false) E else bif bif false then true else !inB x.rank 0 1000000 then Mem.le E E/\K (B false) E else bif bif false then true else !inB x.parent (-1:Int) 59 then Mem.le E E/\K (B false) E else bif bif false then true else !inB x.asn 0 1000000000 then Mem.le E E/\K (B false) E else bif bif false then true else !inB x.fresh 0 1000000000 then Mem.le E E/\K (B false) E else bif bif false then true else !inB x.seq 0 1000000000 then Mem.le E E/\K (B false) E else Lp R3 8 Try.f28 [1,1,1,1,1,1,1,1,1,1,1,0,1,0] 0 (pubK E K) { fr:=some (SV.agg (bcx x b11 n11 c11 b12 n12 c12 b13 n13 c13 b14 n14 c14 b16 n16 c16 b17 n17 c17 b18 n18 c18 b27 n27 c27 b28 n28 c28))::oc 0 0::none::oB (inB x.from_ 0 59)::oB (inB x.boot 0 1000000000)::oB (inB x.hops 0 60)::oB (inB x.bound 0 2000)::oB (inB x.rank 0 1000000)::oB (inB x.parent (-1:Int) 59)::oB (inB x.asn 0 1000000000)::oB (inB x.fresh 0 1000000000)::oB (inB x.seq 0 1000000000)::oI 0::no4 (no2 (oc 0 0::oI x.from_::oB (inB x.from_ 0 59)::oc 0 2::oI x.boot::oB (inB x.boot 0 1000000000)::oc 0 3::oI x.hops::oB (inB x.hops 0 60)::oc 0 4::oI x.bound::oB (inB x.bound 0 2000)::oc 0 6::oc 0 7::oI x.rank::oB (inB x.rank 0 1000000)::oc 0 8::oI x.parent::oB (inB x.parent (-1:Int) 59)::oc 0 1::oI x.asn::oB (inB x.asn 0 1000000000)::oc 0 5::oI x.fresh::oB (inB x.fresh 0 1000000000)::oc 0 6::oc 0 6::oI x.seq::oB (inB x.seq 0 1000000000)::oB (inB x.from_ 0 59)::oB (!inB x.from_ 0 59)::oB false::oB (inB x.boot 0 1000000000)::oB (!inB x.boot 0 1000000000)::oB (bif false then true else !inB x.boot 0 1000000000)::oB false::oB (inB x.hops 0 60)::oB (!inB x.hops 0 60)::oB (bif false then true else !inB x.hops 0 60)::oB false::oB (inB x.bound 0 2000)::oB (!inB x.bound 0 2000)::oB (bif false then true else !inB x.bound 0 2000)::oB false::oB (inB x.rank 0 1000000)::oB (!inB x.rank 0 1000000)::oB (bif false then true else !inB x.rank 0 1000000)::oB false::oB (inB x.parent (-1:Int) 59)::oB (!inB x.parent (-1:Int) 59)::oB (bif false then true else !inB x.parent (-1:Int) 59)::oB false::oB (inB x.asn 0 1000000000)::oB (!inB x.asn 0 1000000000)::oB (bif false then true else !inB x.asn 0 1000000000)::oB false::oB (inB x.fresh 0 1000000000)::oB (!inB x.fresh 0 1000000000)::oB (bif false then true else !inB x.fresh 0 1000000000)::oB false::oB (inB x.seq 0 1000000000)::oB (!inB x.seq 0 1000000000)::oB (bif false then true else !inB x.seq 0 1000000000)::no32 (no8 (no4 (no2 (none::[])))))),bx:=[(⟨40,.lst (bcx x b11 n11 c11 b12 n12 c12 b13 n13 c13 b14 n14 c14 b16 n16 c16 b17 n17 c17 b18 n18 c18 b27 n27 c27 b28 n28 c28),30,true⟩:Box)],E:=E:St })
 delta no2 no4 no8 no32 bcx
 have no:¬ (enc x).2=false->Mem.le E E/\K (B false) E:=fun q=>⟨mr_,h false ⟨fun e=>(by cases e),fun e=>absurd e q⟩⟩
 refine ⟨mr_,mr_,mr_,mr_,mr_,mr_,mr_,mr_,mr_,?_⟩
 refine condC (fun q=>no (fun z=>by have z:=(valid_iff.1 z).1;have k:=z.1;rw [k] at q;cases q)) (fun q0=>?_)
 refine condC (fun q=>no (fun z=>by have z:=(valid_iff.1 z).1;have k:=z.2.2.1;rw [k] at q;cases q)) (fun q1=>?_)
 refine condC (fun q=>no (fun z=>by have z:=(valid_iff.1 z).1;have k:=z.2.2.2.1;rw [k] at q;cases q)) (fun q2=>?_)
 refine condC (fun q=>no (fun z=>by have z:=(valid_iff.1 z).1;have k:=z.2.2.2.2.1;rw [k] at q;cases q)) (fun q3=>?_)
 refine condC (fun q=>no (fun z=>by have z:=(valid_iff.1 z).1;have k:=z.2.2.2.2.2.2.2.1;rw [k] at q;cases q)) (fun q4=>?_)
 refine condC (fun q=>no (fun z=>by have z:=(valid_iff.1 z).1;have k:=z.2.2.2.2.2.2.2.2;rw [k] at q;cases q)) (fun q5=>?_)
 refine condC (fun q=>no (fun z=>by have z:=(valid_iff.1 z).1;have k:=z.2.1;rw [k] at q;cases q)) (fun q6=>?_)
 refine condC (fun q=>no (fun z=>by have z:=(valid_iff.1 z).1;have k:=z.2.2.2.2.2.1;rw [k] at q;cases q)) (fun q7=>?_)
 refine condC (fun q=>no (fun z=>by have z:=(valid_iff.1 z).1;have k:=z.2.2.2.2.2.2.1;rw [k] at q;cases q)) (fun q8=>?_)
 have ha:inB x.from_ 0 59=true/\inB x.asn 0 1000000000=true/\inB x.boot 0 1000000000=true/\inB x.hops 0 60=true/\inB x.bound 0 2000=true/\inB x.fresh 0 1000000000=true/\inB x.seq 0 1000000000=true/\inB x.rank 0 1000000=true/\inB x.parent (-1) 59=true:=⟨(by simpa using q0),(by simpa using q6),(by simpa using q1),(by simpa using q2),(by simpa using q3),(by simpa using q7),(by simpa using q8),(by simpa using q4),(by simpa using q5)⟩
 exact Lp_re [some 0] (Lp_ind okR3 (fun z:{i:Nat//i<=n18/\∀ r∈x.got.take i,rowOK [(0,some (0,59))] r=true}=>sh28 x b11 n11 c11 b12 n12 c12 b13 n13 c13 b14 n14 c14 b16 n16 c16 b17 n17 c17 b18 n18 c18 b27 n27 c27 b28 n28 c28 z.1 E) (fun z=>n18-z.1) (fun z ih=>rn28 hM hs z.2.1 z.2.2 ha h fun g hf=>ih ⟨z.1+1,g,hf⟩ (by show n18-(_+1)<n18-_;omega)) ⟨0,Nat.zero_le _,by simp⟩) (wkH mr_)
noncomputable def tabHf:FuncId->List SV->Mem->(SV->Mem->Prop)->Prop:=fun f args E K=>match f with
 | 28=>d1 args fun x0=>∃ x:Bc,(BcV E x0 x/\BcSm x)/\∀ v:Bool,(v=true↔(enc x).2=false)->K (B v) E
 | f=>tabHe f args E K
theorem tabHf_ok:TabOK Try.prog tabHf:=by
 intro f args E K h
 unfold tabHf at h
 split at h
 ·obtain ⟨x0,rfl,x,⟨hx,hs⟩,hk⟩:=d1_elim h
  obtain ⟨b11,n11,c11,b12,n12,c12,b13,n13,c13,b14,n14,c14,b16,n16,c16,b17,n17,c17,b18,n18,c18,b27,n27,c27,b28,n28,c28,rfl,M⟩:=hx.ex
  exact esm okR3 Try.func28 rfl (ss28 M hs hk)
 ·exact tabHe_ok _ _ _ _ h
noncomputable def tabP1:FuncId->List SV->Mem->(SV->Mem->Prop)->Prop:=fun f args E K=>match f with
 | 61=>d2 args fun x0 x1=>dS x0 fun b1 l2 c3=>dI x1 fun a4=>∃ (zs:List Int),Bs E b1 l2 c3 zs/\l2<=100000/\(∀ (n end' e:Int) (E':Mem),Mem.le E E'->Hyp (rd zs a4=(n,end',e))->K (.tup [I n,I end',I e]) E')
 | _=>False
theorem tabP1_ok:TabOK Try.prog tabP1:=by
 intro f args E K h
 unfold tabP1 at h
 split at h
 ·replace h:=d2_elim h
  obtain ⟨x0,x1,rfl,h⟩:=h
  replace h:=dS_elim h
  obtain ⟨b1,l2,c3,rfl,h⟩:=h
  replace h:=dI_elim h
  obtain ⟨a4,rfl,h⟩:=h
  obtain ⟨zs,g0,g1,h⟩:=h
  exact TabSem.congr (valL_cons rfl (valL_cons rfl rfl)) (esm okW7 Try.func61 rfl (s15 g0 g1 h))
 ·exact h.elim
noncomputable def WP1:Cx:={ P:=Try.prog,inl:=fun f=>List.contains [83] f,tab:=tabP1,isB:=fun _=>false,tabB:=fun _ _ _ _ _=>False,opt:={ unroll:=0,carry:=[] },muts:=mutsD }
theorem okWP1:CxOK WP1:=CxOK.four tabP1_ok (by kernel_rfl) (okInl (by kernel_rfl)) (fun _ _ _ _ _ h=>h.elim)
def rdB (zs:List Int) (a:Int):List Int×Int×Int:=match rd zs a with
 | (n,e',e)=>if e≠0 then ([],0,e) else if n<0\/n>4000 then ([],0,3) else if n>zs.length-e' then ([],0,11) else ((zs.drop e'.toNat).take n.toNat,e'+n,0)
theorem rdF_ok {a:Int} {ws:List Int}:∀ {k i:Nat} {u n e':Int},rdF a ws k i u=(n,e',0)->okN n/\(∃ m:Nat,e'=a+m/\i<m/\m<=ws.length/\m<=i+k)
 | 0,i,u,n,e',h=>by simp [rdF] at h
 | k+1,i,u,n,e',h=>by
  unfold rdF at h
  split at h
  ·simp at h
  ·rename_i h1
   split at h
   ·split at h
    ·simp at h
    ·obtain ⟨g1,m,g2,g3,g4,g5⟩:=rdF_ok h
     exact ⟨g1,m,g2,by omega,g4,by omega⟩
   ·split at h
    ·rename_i h3
     simp only [Prod.mk.injEq] at h
     obtain ⟨rfl,rfl,_⟩:=h
     exact ⟨h3.1,i+1,by omega,by omega,by omega,by omega⟩
    ·simp at h
theorem rd_ok (h:rd zs a=(n,e',0)):okN n/\0<=a/\a<e'/\e'<=zs.length/\e'<=a+7:=by
 unfold rd at h
 split at h
 ·simp at h
 ·rename_i h1
  obtain ⟨g1,m,g2,g3,g4,g5⟩:=rdF_ok h
  rw [List.length_drop] at g4
  exact ⟨g1,by omega,by omega,by omega,by omega⟩
theorem Bs.sub {E E':Mem} {b':Option Addr} {lo hi:Nat} (h:Bs E b l c zs)
  (hF:∀ cs,E (.slice b l c) cs->E' (.slice b' (hi-lo) (c-lo)) (List.take ((hi-lo)*1) (List.drop (lo*1) cs))) (hN:b'.isNone=b.isNone) (h1:lo<=hi) (h2:hi<=l):Bs E' b' (hi-lo) (c-lo) ((zs.drop lo).take (hi-lo)):=by
 have hlen:=h.2.1
 refine ⟨?_,by rw [List.length_take,List.length_drop,hlen];omega,by have:=h.2.2.1;omega,fun z hz=>h.2.2.2.1 z (List.drop_subset _ _ (List.take_subset _ _ hz)),fun e=>?_⟩
 ·rcases h.1 with q|q
  ·exact .inl (by rw [q];simp)
  ·refine .inr ?_
   have:=hF _ q
   rw [Nat.mul_one,Nat.mul_one,← List.map_drop,← List.map_take] at this
   exact this
 ·have :zs=[]:=h.2.2.2.2 (by cases b with |none=>rfl|some x=>rw [e] at hN;cases hN)
  rw [this];simp
theorem rdB_e (h:rd zs a=(n,e',e)) (he:e≠0):rdB zs a=([],0,e):=by unfold rdB;rw [h];exact if_pos he
theorem rdB_r (h:rd zs a=(n,e',0)) (hn:n<0\/n>4000):rdB zs a=([],0,3):=by unfold rdB;rw [h];exact (if_neg (by simp)).trans (if_pos hn)
theorem rdB_s (h:rd zs a=(n,e',0)) (hn:¬ (n<0\/n>4000)) (h2:n>zs.length-e'):rdB zs a=([],0,11):=by unfold rdB;rw [h];exact (if_neg (by simp)).trans ((if_neg hn).trans (if_pos h2))
theorem rdB_o (h:rd zs a=(n,e',0)) (hn:¬ (n<0\/n>4000)) (h2:¬ n>zs.length-e'):rdB zs a=((zs.drop e'.toNat).take n.toNat,e'+n,0):=by unfold rdB;rw [h];exact (if_neg (by simp)).trans ((if_neg hn).trans (if_neg h2))
theorem s19 {b1:Option Addr} {l2:Nat} {c3:Nat} {a4:Int} (h0:Bs E b1 l2 c3 zs) (h1:l2<=100000) (h:∀ (b':Option Addr) (l' c':Nat) (ys:List Int) (end' e:Int) (E':Mem),Mem.le E E'->Hyp (rdB zs a4=(ys,end',e))->Bs E' b' l' c' ys->K (.tup [L b' l' c',I end',I e]) E'):
  Ent WP1 6 Try.f62 [L b1 l2 c3,I a4] E K:=by
 refine sm_ (?_:∃ (zs:List Int),Bs E b1 l2 c3 zs/\l2<=100000/\∀ (n end' e:Int) (E':Mem),Mem.le E E'->Hyp (rd zs a4=(n,end',e))->Mem.le E E'/\bif e !=(0:Int) then Mem.le E E'/\K (SV.tup [L none 0 0,I 0,I e]) E' else bif decide (n<(0:Int)) then Mem.le E E'/\K (SV.tup [L none 0 0,I 0,I 3]) E' else bif bif false then true else decide (n>(4000:Int)) then Mem.le E E'/\K (SV.tup [L none 0 0,I 0,I 3]) E' else bif decide (n>WI ((NI l2)-end')) then Mem.le E E'/\K (SV.tup [L none 0 0,I 0,I 11]) E' else req (l2<=c3) (req ((0:Int)<=WI (end'+n)/\WI (end'+n)<=(NI (toN none c3))) (req ((0:Int)<=end'/\end'<=(NI (toN (some (WI (end'+n))) l2))) (∀ (base':Option Addr) (E'_1:Mem),Mem.le E' E'_1->(∀ (cs:List Value),E' (VS b1 l2 c3) cs->E'_1 (VS base' (toN (some (WI (end'+n))) l2-toN (some end') 0) (toN none c3-toN (some end') 0)) (List.take ((toN (some (WI (end'+n))) l2-toN (some end') 0)*1) (List.drop (toN (some end') 0*1) cs)))->Option.isNone base'=Option.isNone b1->bif Option.isNone base' then Mem.le E'_1 E'_1/\Mem.le E E'_1/\K (SV.tup [L none 0 0,I (WI (end'+n)),I 0]) E'_1 else ∃ (cs:List Value),(cs=[]\/E'_1 (VS base' (toN (some (WI (end'+n))) l2-toN (some end') 0) (toN none c3-toN (some end') 0)) cs)/\(toN (some (WI (end'+n))) l2-toN (some end') 0)*1<=List.length cs/\(∀ (x:Value),List.Mem x cs->Value.oneCell' x=true)/\0<=0/\0<=0/\0<=0/\req ((0+(toN (some (WI (end'+n))) l2-toN (some end') 0))*1<=140737488355328) (∀ (cap' tot':Nat),0+(toN (some (WI (end'+n))) l2-toN (some end') 0)<=cap'->cap'*1<=tot'->Mem.le E'_1 E'_1/\∀ (base:Option Addr) (E':Mem),Mem.le E'_1 E'->WinE E' base ([]++List.take ((toN (some (WI (end'+n))) l2-toN (some end') 0)*1) cs)->Mem.le E E'/\K (SV.tup [L (Option.map (fun (x:Addr)=>Addr.add x 0) base) (0+(toN (some (WI (end'+n))) l2-toN (some end') 0)) cap',I (WI (end'+n)),I 0]) E')))))
 delta WI NI VS
 have hB:=h0
 have hlen:=hB.2.1
 refine ⟨zs,hB,h1,fun n e' e E1 hE1 hy=>⟨hE1,?_⟩⟩
 have hy:rd zs a4=(n,e',e):=hy
 refine condC (fun h2=>?_) (fun h2=>?_)
 ·exact ⟨hE1,h none 0 0 [] 0 e E1 hE1 (rdB_e hy (by simpa using h2)) (Bs.nil _)⟩
 have h2:e=0:=by simpa using h2
 subst h2
 obtain ⟨g1,g2,g3,g4,g5⟩:=rd_ok hy
 refine condC (fun h3=>?_) (fun h3=>?_)
 ·exact ⟨hE1,h none 0 0 [] 0 3 E1 hE1 (rdB_r hy (.inl (by simpa using h3))) (Bs.nil _)⟩
 have h3:¬ n<0:=by simpa using h3
 refine condC (fun h4=>?_) (fun h4=>?_)
 ·exact ⟨hE1,h none 0 0 [] 0 3 E1 hE1 (rdB_r hy (.inr (by simpa using h4))) (Bs.nil _)⟩
 have h4:n<=4000:=by simpa using h4
 rw [wrap_i64 (x:=(l2:Int)-e') (by omega),wrap_i64 (x:=e'+n) (by omega)]
 refine condC (fun h5=>?_) (fun h5=>?_)
 ·exact ⟨hE1,h none 0 0 [] 0 11 E1 hE1 (rdB_s hy (by omega) (by simp at h5;omega)) (Bs.nil _)⟩
 have h5:n<=l2-e':=by simp at h5;omega
 have hv:=rdB_o hy (by omega) (by omega)
 have hc:=hB.2.2.1
 refine req_intro hc (req_intro ⟨by omega,by show e'+n<=c3;omega⟩ (req_intro ⟨by omega,by show e'<=((e'+n).toNat:Int);omega⟩ ?_))
 intro b5 E5 hE5 hF hN
 have hS:Bs E5 b5 ((e'+n).toNat-e'.toNat) (c3-e'.toNat) ((zs.drop e'.toNat).take ((e'+n).toNat-e'.toNat)):=Bs.sub (hB.mono hE1) hF hN (by omega) (by omega)
 rw [show n.toNat=(e'+n).toNat-e'.toNat by omega] at hv
 refine condC (fun hb=>?_) (fun hb=>?_)
 ·have hnil:=hS.2.2.2.2 (by simpa using hb)
  exact ⟨mr_,mt_ hE1 hE5,h none 0 0 [] _ 0 E5 (mt_ hE1 hE5) (by show rdB zs a4=_;rw [hv,hnil]) (Bs.nil _)⟩
 ·obtain ⟨s1,s2,s3⟩:=hS.src
  refine ⟨_,s1,s2,s3,Nat.le_refl _,Nat.le_refl _,Nat.le_refl _,req_intro (by show (0+((e'+n).toNat-e'.toNat))*1<=_;omega) ?_⟩
  intro cap1 tot1 q1 q2
  refine ⟨mr_,fun base E6 hE6 hW=>⟨mt_ hE1 (mt_ hE5 hE6),?_⟩⟩
  rw [List.nil_append] at hW
  have hW:WinE E6 base (List.take (((e'+n).toNat-e'.toNat)*1) (vB ((zs.drop e'.toNat).take ((e'+n).toNat-e'.toNat)))):=hW
  rw [tkB (Nat.le_of_eq hS.2.1)] at hW
  exact h _ _ _ _ _ 0 E6 (mt_ hE1 (mt_ hE5 hE6)) hv (Bs.win hW rfl (by rw [hS.2.1];exact (Nat.zero_add _).symm) q1 (BsB hS))
noncomputable def WB:Cx:={ P:=Try.prog,inl:=fun f=>List.contains [] f,tab:=fun _ _ _ _=>False,isB:=fun _=>false,tabB:=fun _ _ _ _ _=>False,opt:={ unroll:=0,carry:=[5] },muts:=mutsD }
theorem okWB:CxOK WB:=CxOK.four (fun _ _ _ _ h=>h.elim) (by kernel_rfl) (okInl (by kernel_rfl)) (fun _ _ _ _ _ h=>h.elim)
theorem s38 {a1:Int} {a2:Int} {a3:Int} (h:K (B (decide (a2<=a1/\a1<=a3))) E):
  Ent WB 6 Try.f58 [I a1,.agg [I a2,I a3]] E K:=by
 refine sm_ (?_:bif decide (a1>=a2) then Mem.le E E/\K (B (bif true then decide (a1<=a3) else false)) E else Mem.le E E/\K (B false) E)
 refine condC (fun g=>?_) (fun g=>?_)
 ·have g:a2<=a1:=by simpa using g
  exact ⟨mr_,by simpa [g] using h⟩
 ·have g:¬ a2<=a1:=by simpa using g
  exact ⟨mr_,by simpa [g] using h⟩
def okF (k f t a y:Int):Prop:=(1<=k/\k<=4)/\(0<=f/\f<=59)/\(-1<=t/\t<=59)/\(0<=a/\a<=1000000000)/\(0<=y/\y<=2000000)
instance (k f t a y:Int):Decidable (okF k f t a y):=inferInstanceAs (Decidable (_/\_))
def pk (k f t a y:Int) (zs:List Int):List Int×Int:=if okF k f t a y/\zs.length<=4000 then (dig (zig k)++dig (zig f)++dig (zig t)++dig (zig a)++dig (zig y)++dig (zig zs.length)++zs,0) else ([],1)
noncomputable def tab10:FuncId->List SV->Mem->(SV->Mem->Prop)->Prop:=fun f args E K=>match f with
 | 80=>d1 args fun x0=>dI x0 fun a1=>(-10000000000000<=a1/\a1<=10000000000000)/\(K (I (zig a1)) E)
 | 58=>d2 args fun x0 x1=>dI x0 fun a1=>dC x1 fun l1=>d2 l1 fun x1_0 x1_1=>dI x1_0 fun a2=>dI x1_1 fun a3=>(K (B (decide (a2<=a1/\a1<=a3))) E)
 | _=>False
theorem tab10_ok:TabOK Try.prog tab10:=by
 intro f args E K h
 unfold tab10 at h
 split at h
 ·replace h:=d1_elim h
  obtain ⟨x0,rfl,h⟩:=h
  replace h:=dI_elim h
  obtain ⟨a1,rfl,h⟩:=h
  obtain ⟨g0,h⟩:=h
  exact TabSem.congr (valL_cons rfl rfl) (esm okW0 Try.func80 rfl (s31 g0 h))
 ·replace h:=d2_elim h
  obtain ⟨x0,x1,rfl,h⟩:=h
  replace h:=dI_elim h
  obtain ⟨a1,rfl,h⟩:=h
  replace h:=dC_elim h
  obtain ⟨l1,hl1,h⟩:=h
  replace h:=d2_elim h
  obtain ⟨x1_0,x1_1,rfl,h⟩:=h
  replace h:=dI_elim h
  obtain ⟨a2,rfl,h⟩:=h
  replace h:=dI_elim h
  obtain ⟨a3,rfl,h⟩:=h
  exact TabSem.congr (valL_cons rfl (valL_cons (asCells_val hl1) rfl)) (esm okWB Try.func58 rfl (s38 h))
 ·exact h.elim
noncomputable def WE:Cx:={ P:=Try.prog,inl:=fun f=>List.contains [57,59] f,tab:=tab10,isB:=fun f=>f==79,tabB:=tabB1,opt:={ unroll:=6,carry:=[] },muts:=(fun o=>match o with | .call { callee:=.value (.func 59),.. }=>true| .buildSlice .. =>true|o=>mutsD o) }
theorem okWE:CxOK WE:=CxOK.four tab10_ok (by kernel_rfl) (okInl (by kernel_rfl)) tabB1_ok
theorem pk_bad (h:¬ (okF k f t a y/\zs.length<=4000)):pk k f t a y zs=([],1):=if_neg h
theorem pk_ok (h:okF k f t a y/\zs.length<=4000):pk k f t a y zs=(dig (zig k)++dig (zig f)++dig (zig t)++dig (zig a)++dig (zig y)++dig (zig zs.length)++zs,0):=if_pos h
theorem s21 {a1:Int} {a2:Int} {a3:Int} {a4:Int} {a5:Int} {b6:Option Addr} {l7:Nat} {c8:Nat} (h0:Bs E b6 l7 c8 zs) (h1:l7<=100000) (h:∀ (b':Option Addr) (l' c':Nat) (ys:List Int) (e:Int) (E':Mem),Mem.le E E'->Hyp (pk a1 a2 a3 a4 a5 zs=(ys,e))->Bs E' b' l' c' ys->K (.tup [L b' l' c',I e]) E'):
  Ent WE 6 Try.f29 [.agg [I a1,I a2,I a3,I a4,I a5,L b6 l7 c8]] E K:=by
 refine sm_ (?_:Mem.le E E/\Mem.le E E/\bif !decide ((1:Int)<=a1/\a1<=(4:Int)) then Mem.le E E/\K (SV.tup [L none 0 0,I 1]) E else Mem.le E E/\bif !decide ((0:Int)<=a2/\a2<=(59:Int)) then Mem.le E E/\K (SV.tup [L none 0 0,I 1]) E else Mem.le E E/\bif !decide ((-1:Int)<=a3/\a3<=(59:Int)) then Mem.le E E/\K (SV.tup [L none 0 0,I 1]) E else Mem.le E E/\bif !decide ((0:Int)<=a4/\a4<=(1000000000:Int)) then Mem.le E E/\K (SV.tup [L none 0 0,I 1]) E else Mem.le E E/\bif !decide ((0:Int)<=a5/\a5<=(2000000:Int)) then Mem.le E E/\K (SV.tup [L none 0 0,I 1]) E else bif decide ((NI l7)>4000) then Mem.le E E/\K (SV.tup [L none 0 0,I 1]) E else ((-10000000000000:Int)<=a1/\a1<=(10000000000000:Int))/\Mem.le E E/\((0:Int)<=zig a1/\zig a1<(1152921504606846976:Int))/\∀ (cap' tot':Nat),List.length (dig (zig a1))<=cap'->cap'<=tot'->Mem.le E E/\((-10000000000000:Int)<=a2/\a2<=(10000000000000:Int))/\Mem.le E E/\((0:Int)<=zig a2/\zig a2<(1152921504606846976:Int))/\∃ (l:List Int),(5=5/\vB (dig (zig a1))=vB l/\List.length l=List.length (dig (zig a1))/\List.length (dig (zig a1))<=cap'/\cap'<=tot'/\List.length (dig (zig a1))<=1000000)/\∀ (cap' tot':Nat),List.length (dig (zig a1))+List.length (dig (zig a2))<=cap'->cap'<=tot'->((-10000000000000:Int)<=a3/\a3<=(10000000000000:Int))/\Mem.le E E/\((0:Int)<=zig a3/\zig a3<(1152921504606846976:Int))/\∃ (l_1:List Int),(5=5/\vB (l++dig (zig a2))=vB l_1/\List.length l_1=List.length (dig (zig a1))+List.length (dig (zig a2))/\List.length (dig (zig a1))+List.length (dig (zig a2))<=cap'/\cap'<=tot'/\List.length (dig (zig a1))+List.length (dig (zig a2))<=1000000)/\∀ (cap' tot':Nat),List.length (dig (zig a1))+List.length (dig (zig a2))+List.length (dig (zig a3))<=cap'->cap'<=tot'->((-10000000000000:Int)<=a4/\a4<=(10000000000000:Int))/\Mem.le E E/\((0:Int)<=zig a4/\zig a4<(1152921504606846976:Int))/\∃ (l:List Int),(5=5/\vB (l_1++dig (zig a3))=vB l/\List.length l=List.length (dig (zig a1))+List.length (dig (zig a2))+List.length (dig (zig a3))/\List.length (dig (zig a1))+List.length (dig (zig a2))+List.length (dig (zig a3))<=cap'/\cap'<=tot'/\List.length (dig (zig a1))+List.length (dig (zig a2))+List.length (dig (zig a3))<=1000000)/\∀ (cap' tot':Nat),List.length (dig (zig a1))+List.length (dig (zig a2))+List.length (dig (zig a3))+List.length (dig (zig a4))<=cap'->cap'<=tot'->((-10000000000000:Int)<=a5/\a5<=(10000000000000:Int))/\Mem.le E E/\((0:Int)<=zig a5/\zig a5<(1152921504606846976:Int))/\∃ (l_2:List Int),(5=5/\vB (l++dig (zig a4))=vB l_2/\List.length l_2=List.length (dig (zig a1))+List.length (dig (zig a2))+List.length (dig (zig a3))+List.length (dig (zig a4))/\List.length (dig (zig a1))+List.length (dig (zig a2))+List.length (dig (zig a3))+List.length (dig (zig a4))<=cap'/\cap'<=tot'/\List.length (dig (zig a1))+List.length (dig (zig a2))+List.length (dig (zig a3))+List.length (dig (zig a4))<=(1000000:Nat))/\∀ (cap' tot':Nat),List.length (dig (zig a1))+List.length (dig (zig a2))+List.length (dig (zig a3))+List.length (dig (zig a4))+List.length (dig (zig a5))<=cap'->cap'<=tot'->Sx.Alike (AlikeT.n al2 AlikeT.l) (((-10000000000000:Int)<=(NI l7)/\(NI l7)<=10000000000000)/\Mem.le E E/\((0:Int)<=zig (NI l7)/\zig (NI l7)<1152921504606846976)/\∃ (l:List Int),((5:Nat)=(5:Nat)/\vB (l_2++dig (zig a5))=vB l/\List.length l=List.length (dig (zig a1))+List.length (dig (zig a2))+List.length (dig (zig a3))+List.length (dig (zig a4))+List.length (dig (zig a5))/\List.length (dig (zig a1))+List.length (dig (zig a2))+List.length (dig (zig a3))+List.length (dig (zig a4))+List.length (dig (zig a5))<=cap'/\cap'<=tot'/\List.length (dig (zig a1))+List.length (dig (zig a2))+List.length (dig (zig a3))+List.length (dig (zig a4))+List.length (dig (zig a5))<=(1000000:Nat))/\∀ (cap' tot':Nat),List.length (dig (zig a1))+List.length (dig (zig a2))+List.length (dig (zig a3))+List.length (dig (zig a4))+List.length (dig (zig a5))+List.length (dig (zig (NI l7)))<=cap'->cap'<=tot'->∃ (cs:List Value),(cs=[]\/E (VS b6 l7 c8) cs)/\l7*(1:Nat)<=List.length cs/\(∀ (x:Value),List.Mem x cs->Value.oneCell' x=true)/\(List.length (dig (zig a1))+List.length (dig (zig a2))+List.length (dig (zig a3))+List.length (dig (zig a4))+List.length (dig (zig a5))+List.length (dig (zig (NI l7))))*(1:Nat)<=List.length (Row.cells (Row.vals (vB (l++dig (zig (NI l7))))))/\cap'*(1:Nat)<=tot'/\List.length (dig (zig a1))+List.length (dig (zig a2))+List.length (dig (zig a3))+List.length (dig (zig a4))+List.length (dig (zig a5))+List.length (dig (zig (NI l7)))<=cap'/\req ((List.length (dig (zig a1))+List.length (dig (zig a2))+List.length (dig (zig a3))+List.length (dig (zig a4))+List.length (dig (zig a5))+List.length (dig (zig (NI l7)))+l7)*(1:Nat)<=(140737488355328:Nat)) (∀ (cap' tot':Nat),List.length (dig (zig a1))+List.length (dig (zig a2))+List.length (dig (zig a3))+List.length (dig (zig a4))+List.length (dig (zig a5))+List.length (dig (zig (NI l7)))+l7<=cap'->cap'*(1:Nat)<=tot'->∀ (base:Option Addr) (E':Mem),Mem.le E E'->WinE E' base (List.take ((List.length (dig (zig a1))+List.length (dig (zig a2))+List.length (dig (zig a3))+List.length (dig (zig a4))+List.length (dig (zig a5))+List.length (dig (zig (NI l7))))*(1:Nat)) (vB (l++dig (zig (NI l7))))++List.take (l7*(1:Nat)) cs)->Mem.le E E'/\K (SV.tup [L (Option.map (fun (x:Addr)=>Addr.add x 0) base) (List.length (dig (zig a1))+List.length (dig (zig a2))+List.length (dig (zig a3))+List.length (dig (zig a4))+List.length (dig (zig a5))+List.length (dig (zig (NI l7)))+l7) cap',I 0]) E')))
 delta NI VS
 have hlen:=h0.2.1
 have bad:¬ (okF a1 a2 a3 a4 a5/\zs.length<=4000)->K (.tup [L none 0 0,I 1]) E:=fun hn=>h none 0 0 [] 1 E mr_ (pk_bad hn) (Bs.nil _)
 unfold okF at bad
 refine ⟨mr_,mr_,condC (fun g=>⟨mr_,bad (by simp at g;omega)⟩) (fun g1=>?_)⟩
 refine ⟨mr_,condC (fun g=>⟨mr_,bad (by simp at g;omega)⟩) (fun g2=>?_)⟩
 refine ⟨mr_,condC (fun g=>⟨mr_,bad (by simp at g;omega)⟩) (fun g3=>?_)⟩
 refine ⟨mr_,condC (fun g=>⟨mr_,bad (by simp at g;omega)⟩) (fun g4=>?_)⟩
 refine ⟨mr_,condC (fun g=>⟨mr_,bad (by simp at g;omega)⟩) (fun g5=>?_)⟩
 refine condC (fun g=>⟨mr_,bad (by simp at g;omega)⟩) (fun g6=>?_)
 have g1:1<=a1/\a1<=4:=by simpa using g1
 have g2:0<=a2/\a2<=59:=by simpa using g2
 have g3: -1<=a3/\a3<=59:=by simpa using g3
 have g4:0<=a4/\a4<=1000000000:=by simpa using g4
 have g5:0<=a5/\a5<=2000000:=by simpa using g5
 have g6:l7<=4000:=by simp at g6;omega
 have hok:okF a1 a2 a3 a4 a5/\zs.length<=4000:=⟨⟨g1,g2,g3,g4,g5⟩,by omega⟩
 have hp:=pk_ok hok
 have k1:okN a1:=⟨by omega,by omega⟩
 have z1:=zig_b k1
 have d1:=dig_len7 (zig a1)
 have k2:okN a2:=⟨by omega,by omega⟩
 have z2:=zig_b k2
 have d2:=dig_len7 (zig a2)
 have k3:okN a3:=⟨by omega,by omega⟩
 have z3:=zig_b k3
 have d3:=dig_len7 (zig a3)
 have k4:okN a4:=⟨by omega,by omega⟩
 have z4:=zig_b k4
 have d4:=dig_len7 (zig a4)
 have k5:okN a5:=⟨by omega,by omega⟩
 have z5:=zig_b k5
 have d5:=dig_len7 (zig a5)
 have k6:okN (l7:Int):=⟨by omega,by omega⟩
 have z6:=zig_b k6
 have d6:=dig_len7 (zig l7)
 rw [hlen] at hp
 obtain ⟨t1,t2,t3⟩:=h0.src
 refine ⟨k1,mr_,z1,fun c1 r1 q1 q2=>⟨mr_,k2,mr_,z2,dig (zig a1),⟨rfl,rfl,rfl,q1,q2,by omega⟩,fun c2 r2 q3 q4=>⟨k3,mr_,z3,_,⟨rfl,rfl,by simp only [List.length_append],q3,q4,by omega⟩,fun c3 r3 q5 q6=>⟨k4,mr_,z4,_,⟨rfl,rfl,by simp only [List.length_append],q5,q6,by omega⟩,fun c4 r4 q7 q8=>⟨k5,mr_,z5,_,⟨rfl,rfl,by simp only [List.length_append],q7,q8,by omega⟩,fun c5 r5 q9 q10=>alike ⟨k6,mr_,z6,_,⟨rfl,rfl,by simp only [List.length_append],q9,q10,by omega⟩,fun c6 r6 q11 q12=>⟨_,t1,t2,t3,by simp only [Row.cells,List.length_map,List.length_append,Nat.mul_one,Nat.le_refl],by omega,q11,req_intro (by omega) ?_⟩⟩⟩⟩⟩⟩⟩
 intro c7 r7 q13 q14 base E' hE hW
 rw [tkB (by simp only [List.length_append,Nat.le_refl]),tkB (Nat.le_of_eq hlen),mapB] at hW
 exact ⟨hE,h _ _ _ _ 0 E' hE hp (Bs.win hW rfl (by simp only [List.length_append,hlen]) q13 (app_byte (app_byte (app_byte (app_byte (app_byte (app_byte (dig_byte z1.1 z1.2) (dig_byte z2.1 z2.2)) (dig_byte z3.1 z3.2)) (dig_byte z4.1 z4.2)) (dig_byte z5.1 z5.2)) (dig_byte z6.1 z6.2)) (BsB h0)))⟩
noncomputable def tab12:FuncId->List SV->Mem->(SV->Mem->Prop)->Prop:=fun f args E K=>match f with
 | 61=>d2 args fun x0 x1=>dS x0 fun b1 l2 c3=>dI x1 fun a4=>∃ (zs:List Int),Bs E b1 l2 c3 zs/\l2<=100000/\(∀ (n end' e:Int) (E':Mem),Mem.le E E'->Hyp (rd zs a4=(n,end',e))->K (.tup [I n,I end',I e]) E')
 | 58=>d2 args fun x0 x1=>dI x0 fun a1=>dC x1 fun l1=>d2 l1 fun x1_0 x1_1=>dI x1_0 fun a2=>dI x1_1 fun a3=>(K (B (decide (a2<=a1/\a1<=a3))) E)
 | 62=>d2 args fun x0 x1=>dS x0 fun b1 l2 c3=>dI x1 fun a4=>∃ (zs:List Int),Bs E b1 l2 c3 zs/\l2<=100000/\(∀ (b':Option Addr) (l' c':Nat) (ys:List Int) (end' e:Int) (E':Mem),Mem.le E E'->Hyp (rdB zs a4=(ys,end',e))->Bs E' b' l' c' ys->K (.tup [L b' l' c',I end',I e]) E')
 | _=>False
theorem tab12_ok:TabOK Try.prog tab12:=by
 intro f args E K h
 unfold tab12 at h
 split at h
 ·replace h:=d2_elim h
  obtain ⟨x0,x1,rfl,h⟩:=h
  replace h:=dS_elim h
  obtain ⟨b1,l2,c3,rfl,h⟩:=h
  replace h:=dI_elim h
  obtain ⟨a4,rfl,h⟩:=h
  obtain ⟨zs,g0,g1,h⟩:=h
  exact TabSem.congr (valL_cons rfl (valL_cons rfl rfl)) (esm okW7 Try.func61 rfl (s15 g0 g1 h))
 ·replace h:=d2_elim h
  obtain ⟨x0,x1,rfl,h⟩:=h
  replace h:=dI_elim h
  obtain ⟨a1,rfl,h⟩:=h
  replace h:=dC_elim h
  obtain ⟨l1,hl1,h⟩:=h
  replace h:=d2_elim h
  obtain ⟨x1_0,x1_1,rfl,h⟩:=h
  replace h:=dI_elim h
  obtain ⟨a2,rfl,h⟩:=h
  replace h:=dI_elim h
  obtain ⟨a3,rfl,h⟩:=h
  exact TabSem.congr (valL_cons rfl (valL_cons (asCells_val hl1) rfl)) (esm okWB Try.func58 rfl (s38 h))
 ·replace h:=d2_elim h
  obtain ⟨x0,x1,rfl,h⟩:=h
  replace h:=dS_elim h
  obtain ⟨b1,l2,c3,rfl,h⟩:=h
  replace h:=dI_elim h
  obtain ⟨a4,rfl,h⟩:=h
  obtain ⟨zs,g0,g1,h⟩:=h
  exact TabSem.congr (valL_cons rfl (valL_cons rfl rfl)) (esm okWP1 Try.func62 rfl (s19 g0 g1 h))
 ·exact h.elim
noncomputable def WG:Cx:={ P:=Try.prog,inl:=fun f=>List.contains [57,60] f,tab:=tab12,isB:=fun _=>false,tabB:=fun _ _ _ _ _=>False,opt:={ unroll:=0,carry:=[15] },muts:=mutsD }
theorem okWG:CxOK WG:=CxOK.four tab12_ok (by kernel_rfl) (okInl (by kernel_rfl)) (fun _ _ _ _ _ h=>h.elim)
def fld (zs:List Int) (p lo hi:Int):Int×Int×Int:=match rd zs p with
 | (n,e',e)=>if e≠0 then (0,0,e) else if lo<=n/\n<=hi then (n,e',0) else (0,0,3)
theorem fld_e (h:rd zs p=(n,e',e)) (he:e≠0):fld zs p lo hi=(0,0,e):=by unfold fld;rw [h];exact if_pos he
theorem fld_r (h:rd zs p=(n,e',0)) (he:¬ (lo<=n/\n<=hi)):fld zs p lo hi=(0,0,3):=by unfold fld;rw [h];exact (if_neg (by simp)).trans (if_neg he)
theorem fld_o (h:rd zs p=(n,e',0)) (he:lo<=n/\n<=hi):fld zs p lo hi=(n,e',0):=by unfold fld;rw [h];exact (if_neg (by simp)).trans (if_pos he)
def bad (e:Int):List Int×List Int×Int:=([0,0,0,0,0],[],e)
def stp (er:Int) (r:List Int×List Int×Int):List Int×List Int×Int:=if er≠0 then bad er else r
theorem stp_e (h:er≠0) {r:List Int×List Int×Int}:stp er r=bad er:=if_pos h
theorem stp_0 {r:List Int×List Int×Int}:stp 0 r=r:=if_neg (by simp)
def uk5 (zs:List Int) (p k f t a y:Int):List Int×List Int×Int:=match rdB zs p with
 | (ys,e',e)=>if e≠0 then bad e else if e'<zs.length then bad 11 else ([k,f,t,a,y],ys,0)
theorem uk5_e (h:rdB zs p=(ys,e',e)) (he:e≠0):uk5 zs p k f t a y=bad e:=by unfold uk5;rw [h];exact if_pos he
theorem uk5_s (h:rdB zs p=(ys,e',0)) (he:e'<zs.length):uk5 zs p k f t a y=bad 11:=by unfold uk5;rw [h];exact (if_neg (by simp)).trans (if_pos he)
theorem uk5_o (h:rdB zs p=(ys,e',0)) (he:¬ e'<zs.length):uk5 zs p k f t a y=([k,f,t,a,y],ys,0):=by unfold uk5;rw [h];exact (if_neg (by simp)).trans (if_neg he)
def uk4 (zs:List Int) (p k f t a:Int):List Int×List Int×Int:=match fld zs p (0) 2000000 with
 | (y,p',e)=>if e≠0 then bad e else uk5 zs p' k f t a y
theorem uk4_e (h:fld zs p (0) 2000000=(n,p',e)) (he:e≠0):uk4 zs p k f t a=bad e:=by unfold uk4;rw [h];exact if_pos he
theorem uk4_o (h:fld zs p (0) 2000000=(n,p',0)):uk4 zs p k f t a=uk5 zs p' k f t a n:=by unfold uk4;rw [h];exact if_neg (by simp)
def uk3 (zs:List Int) (p k f t:Int):List Int×List Int×Int:=match fld zs p (0) 1000000000 with
 | (a,p',e)=>if e≠0 then bad e else uk4 zs p' k f t a
theorem uk3_e (h:fld zs p (0) 1000000000=(n,p',e)) (he:e≠0):uk3 zs p k f t=bad e:=by unfold uk3;rw [h];exact if_pos he
theorem uk3_o (h:fld zs p (0) 1000000000=(n,p',0)):uk3 zs p k f t=uk4 zs p' k f t n:=by unfold uk3;rw [h];exact if_neg (by simp)
def uk2 (zs:List Int) (p k f:Int):List Int×List Int×Int:=match fld zs p (-1) 59 with
 | (t,p',e)=>if e≠0 then bad e else uk3 zs p' k f t
theorem uk2_e (h:fld zs p (-1) 59=(n,p',e)) (he:e≠0):uk2 zs p k f=bad e:=by unfold uk2;rw [h];exact if_pos he
theorem uk2_o (h:fld zs p (-1) 59=(n,p',0)):uk2 zs p k f=uk3 zs p' k f n:=by unfold uk2;rw [h];exact if_neg (by simp)
def uk1 (zs:List Int) (p k:Int):List Int×List Int×Int:=match fld zs p (0) 59 with
 | (f,p',e)=>if e≠0 then bad e else uk2 zs p' k f
theorem uk1_e (h:fld zs p (0) 59=(n,p',e)) (he:e≠0):uk1 zs p k=bad e:=by unfold uk1;rw [h];exact if_pos he
theorem uk1_o (h:fld zs p (0) 59=(n,p',0)):uk1 zs p k=uk2 zs p' k n:=by unfold uk1;rw [h];exact if_neg (by simp)
def uk0 (zs:List Int) (p:Int):List Int×List Int×Int:=match fld zs p (1) 4 with
 | (k,p',e)=>if e≠0 then bad e else uk1 zs p' k
theorem uk0_e (h:fld zs p (1) 4=(n,p',e)) (he:e≠0):uk0 zs p=bad e:=by unfold uk0;rw [h];exact if_pos he
theorem uk0_o (h:fld zs p (1) 4=(n,p',0)):uk0 zs p=uk1 zs p' n:=by unfold uk0;rw [h];exact if_neg (by simp)
def sh23 (b:Option Addr) (l c:Nat) (p er k f t a y i:Int) (E:Mem):St:={ fr:=[none,oc 0 0,oc 1 0,oI 0,oc 2 0,oc 3 0,some (.clo 60 [] [.loc 3 0,.loc 0 0,.loc 2 0]),oc 4 0,none,none,none,none,none,none,some (.agg [I 1,I 4,I 0,I 59,I (-1),I 59,I 0,I 1000000000,I 0,I 2000000]),oI i,none,none,none,none,none,none,none,none,none,none,none,none,none,none,none,none,none,none,none,none,none,none,none,none,none,none,none,none,none,none,none,none,none,none,none,none,none,none,none,none,none,none,none],bx:=[⟨35,.lst [L b l c],1,true⟩,⟨69,.lst [I 0,I 0,I 0,I 0,I 0,L none 0 0],6,true⟩,⟨3,.lst [I p],1,true⟩,⟨43,.lst [I er],1,true⟩,⟨114,.lst [I k,I f,I t,I a,I y],5,true⟩],E:=E }
theorem rnd23_5 (hB:Bs E b l c zs) (hl:l<=100000) (hE0:Mem.le E0 E) (h:∀ (k1 f1 t1 a1 y1:Int) (b1:Option Addr) (l1 c1:Nat) (ys:List Int) (e1:Int) (E':Mem),Mem.le E E'->Hyp (stp er (uk5 zs p k f t a y)=([k1,f1,t1,a1,y1],ys,e1))->Bs E' b1 l1 c1 ys->K (.tup [.agg [I k1,I f1,I t1,I a1,I y1,L b1 l1 c1],I e1]) E'):
  Rnd WG 6 Try.f30 [1,1,1,1,0,1,0] 0 (pubK E0 K) (sh23 b l c p er k f t a y 5 E):=by
 refine sm_ (?_:bif er !=(0:Int) then Sx.Alike al2 (Mem.le E0 E/\K (SV.tup [SV.agg [I 0,I 0,I 0,I 0,I 0,L none 0 0],I er]) E) else ∃ (zs:List Int),Bs E b l c zs/\l<=100000/\∀ (b':Option Addr) (l' c':Nat) (ys:List Int) (end' e:Int) (E':Mem),Mem.le E E'->Hyp (rdB zs p=(ys,end',e))->Bs E' b' l' c' ys->Mem.le E E'/\bif e !=(0:Int) then Mem.le E0 E'/\K (SV.tup [SV.agg [I 0,I 0,I 0,I 0,I 0,L none 0 0],I e]) E' else bif decide (end'<(NI l)) then Mem.le E0 E'/\K (SV.tup [SV.agg [I 0,I 0,I 0,I 0,I 0,L none 0 0],I 11]) E' else Mem.le E0 E'/\K (SV.tup [SV.agg [I k,I f,I t,I a,I y,L b' l' c'],I 0]) E')
 delta NI
 have hlen:=hB.2.1
 refine condC (fun g=>?_) (fun g=>?_)
 ·have g:er≠0:=by simpa using g
  rw [stp_e g] at h
  exact alike ⟨hE0,h 0 0 0 0 0 none 0 0 [] er E mr_ rfl (Bs.nil _)⟩
 ·have g:er=0:=by simpa using g
  subst g
  rw [stp_0] at h
  refine ⟨zs,hB,hl,fun b2 l2 c2 ys e' e2 E1 hE1 hy hB2=>⟨hE1,?_⟩⟩
  have hy:rdB zs p=(ys,e',e2):=hy
  refine condC (fun g2=>?_) (fun g2=>?_)
  ·have g2:e2≠0:=by simpa using g2
   rw [uk5_e hy g2] at h
   exact ⟨mt_ hE0 hE1,h 0 0 0 0 0 none 0 0 [] e2 E1 hE1 rfl (Bs.nil _)⟩
  ·have g2:e2=0:=by simpa using g2
   subst g2
   refine condC (fun g3=>?_) (fun g3=>?_)
   ·rw [uk5_s hy (by simp at g3;omega)] at h
    exact ⟨mt_ hE0 hE1,h 0 0 0 0 0 none 0 0 [] 11 E1 hE1 rfl (Bs.nil _)⟩
   ·rw [uk5_o hy (by simp at g3;omega)] at h
    exact ⟨mt_ hE0 hE1,h k f t a y b2 l2 c2 ys 0 E1 hE1 rfl hB2⟩
theorem lp23_5 (hB:Bs E b l c zs) (hl:l<=100000) (hE0:Mem.le E0 E) (h:∀ (k1 f1 t1 a1 y1:Int) (b1:Option Addr) (l1 c1:Nat) (ys:List Int) (e1:Int) (E':Mem),Mem.le E E'->Hyp (stp er (uk5 zs p k f t a y)=([k1,f1,t1,a1,y1],ys,e1))->Bs E' b1 l1 c1 ys->K (.tup [.agg [I k1,I f1,I t1,I a1,I y1,L b1 l1 c1],I e1]) E'):
  Lp WG 6 Try.f30 [1,1,1,1,0,1,0] 0 (pubK E0 K) (sh23 b l c p er k f t a y 5 E):=
 Lp_ind okWG (fun _:Unit=>sh23 b l c p er k f t a y 5 E) (fun _=>0) (fun _ _=>rnd23_5 hB hl hE0 h) ()
theorem rnd23_4 (hB:Bs E b l c zs) (hl:l<=100000) (hE0:Mem.le E0 E) (h:∀ (k1 f1 t1 a1 y1:Int) (b1:Option Addr) (l1 c1:Nat) (ys:List Int) (e1:Int) (E':Mem),Mem.le E E'->Hyp (stp er (uk4 zs p k f t a)=([k1,f1,t1,a1,y1],ys,e1))->Bs E' b1 l1 c1 ys->K (.tup [.agg [I k1,I f1,I t1,I a1,I y1,L b1 l1 c1],I e1]) E')
  (ih:∀ (p' e' v:Int) (E1:Mem),Mem.le E E1->(∀ (k1 f1 t1 a1 y1:Int) (b1:Option Addr) (l1 c1:Nat) (ys:List Int) (e1:Int) (E':Mem),Mem.le E1 E'->Hyp (stp e' (uk5 zs p' k f t a v)=([k1,f1,t1,a1,y1],ys,e1))->Bs E' b1 l1 c1 ys->K (.tup [.agg [I k1,I f1,I t1,I a1,I y1,L b1 l1 c1],I e1]) E')->Lp WG 6 Try.f30 [1,1,1,1,0,1,0] 0 (pubK E0 K) (sh23 b l c p' e' k f t a v 5 E1)):
  Rnd WG 6 Try.f30 [1,1,1,1,0,1,0] 0 (pubK E0 K) (sh23 b l c p er k f t a 0 4 E):=by
 refine sm_ (?_:bif er !=(0:Int) then Lp WG 6 Try.f30 [1,1,1,1,0,1,0] 0 (pubK E0 K) { fr:=none::oc 0 0::oc 1 0::oI 0::oc 2 0::oc 3 0::some (SV.clo 60 [] [SV.loc 3 0,SV.loc 0 0,SV.loc 2 0])::oc 4 0::no4 (no2 (some (SV.agg [I 1,I 4,I 0,I 59,I (-1),I 59,I 0,I 1000000000,I 0,I 2000000])::oI 5::no32 (no8 (no2 (none::[]))))),bx:=[(⟨35,.lst [L b l c],1,true⟩:Box),⟨69,.lst [I 0,I 0,I 0,I 0,I 0,L none 0 0],6,true⟩,⟨3,.lst [I p],1,true⟩,⟨43,.lst [I er],1,true⟩,⟨114,.lst [I k,I f,I t,I a,I 0],5,true⟩,⟨116,.lst [I 0,I 2000000],2,true⟩,⟨116,.lst [I 0,I 2000000],2,true⟩],E:=E:St } else ∃ (zs:List Int),Bs E b l c zs/\l<=100000/\∀ (n end' e:Int) (E':Mem),Mem.le E E'->Hyp (rd zs p=(n,end',e))->Mem.le E E'/\bif e==(0:Int) then Mem.le E' E'/\bif bif true then !decide ((0:Int)<=n/\n<=(2000000:Int)) else false then Lp WG 6 Try.f30 [1,1,1,1,0,1,0] 0 (pubK E0 K) { fr:=none::oc 0 0::oc 1 0::oI 0::oc 2 0::oc 3 0::some (SV.clo 60 [] [SV.loc 3 0,SV.loc 0 0,SV.loc 2 0])::oc 4 0::no4 (no2 (some (SV.agg [I 1,I 4,I 0,I 59,I (-1),I 59,I 0,I 1000000000,I 0,I 2000000])::oI 5::no32 (no8 (no2 (none::[]))))),bx:=[(⟨35,.lst [L b l c],1,true⟩:Box),⟨69,.lst [I 0,I 0,I 0,I 0,I 0,L none 0 0],6,true⟩,⟨3,.lst [I end'],1,true⟩,⟨43,.lst [I 3],1,true⟩,⟨114,.lst [I k,I f,I t,I a,I n],5,true⟩,⟨116,.lst [I 0,I 2000000],2,true⟩,⟨116,.lst [I 0,I 2000000],2,true⟩],E:=E':St } else Lp WG 6 Try.f30 [1,1,1,1,0,1,0] 0 (pubK E0 K) { fr:=none::oc 0 0::oc 1 0::oI 0::oc 2 0::oc 3 0::some (SV.clo 60 [] [SV.loc 3 0,SV.loc 0 0,SV.loc 2 0])::oc 4 0::no4 (no2 (some (SV.agg [I 1,I 4,I 0,I 59,I (-1),I 59,I 0,I 1000000000,I 0,I 2000000])::oI 5::no32 (no8 (no2 (none::[]))))),bx:=[(⟨35,.lst [L b l c],1,true⟩:Box),⟨69,.lst [I 0,I 0,I 0,I 0,I 0,L none 0 0],6,true⟩,⟨3,.lst [I end'],1,true⟩,⟨43,.lst [I e],1,true⟩,⟨114,.lst [I k,I f,I t,I a,I n],5,true⟩,⟨116,.lst [I 0,I 2000000],2,true⟩,⟨116,.lst [I 0,I 2000000],2,true⟩],E:=E':St } else Lp WG 6 Try.f30 [1,1,1,1,0,1,0] 0 (pubK E0 K) { fr:=none::oc 0 0::oc 1 0::oI 0::oc 2 0::oc 3 0::some (SV.clo 60 [] [SV.loc 3 0,SV.loc 0 0,SV.loc 2 0])::oc 4 0::no4 (no2 (some (SV.agg [I 1,I 4,I 0,I 59,I (-1),I 59,I 0,I 1000000000,I 0,I 2000000])::oI 5::no32 (no8 (no2 (none::[]))))),bx:=[(⟨35,.lst [L b l c],1,true⟩:Box),⟨69,.lst [I 0,I 0,I 0,I 0,I 0,L none 0 0],6,true⟩,⟨3,.lst [I end'],1,true⟩,⟨43,.lst [I e],1,true⟩,⟨114,.lst [I k,I f,I t,I a,I n],5,true⟩,⟨116,.lst [I 0,I 2000000],2,true⟩,⟨116,.lst [I 0,I 2000000],2,true⟩],E:=E':St })
 delta no2 no4 no8 no32
 refine condC (fun g=>?_) (fun g=>?_)
 ·have g:er≠0:=by simpa using g
  refine Lp_re [some 0,some 1,some 2,some 3,some 4] (ih p er 0 E mr_ ?_) ⟨⟨Nat.zero_le _,Nat.zero_le _,fun j h=>absurd h (Nat.not_lt_zero _)⟩,rfl,(by repeat' first|exact True.intro|refine And.intro (Or.inl rfl) ?_),(by repeat' first|exact True.intro|exact rfl|exact Or.inl rfl|exact Nat.succ_pos _|refine And.intro ?_ ?_),(by show List.Nodup [0,1,2,3,4];decide),mr_⟩
  rw [stp_e g] at h ⊢
  exact h
 ·have g:er=0:=by simpa using g
  subst g
  rw [stp_0] at h
  refine ⟨zs,hB,hl,fun n e' e2 E1 hE1 hy=>⟨hE1,?_⟩⟩
  have hy:rd zs p=(n,e',e2):=hy
  refine condC (fun g2=>?_) (fun g2=>?_)
  ·have g2:e2=0:=by simpa using g2
   subst g2
   refine ⟨mr_,condC (fun g3=>?_) (fun g3=>?_)⟩
   ·have g3:¬ ((0)<=n/\n<=2000000):=by simp at g3;omega
    refine Lp_re [some 0,some 1,some 2,some 3,some 4] (ih e' 3 n E1 hE1 ?_) ⟨⟨Nat.zero_le _,Nat.zero_le _,fun j h=>absurd h (Nat.not_lt_zero _)⟩,rfl,(by repeat' first|exact True.intro|refine And.intro (Or.inl rfl) ?_),(by repeat' first|exact True.intro|exact rfl|exact Or.inl rfl|exact Nat.succ_pos _|refine And.intro ?_ ?_),(by show List.Nodup [0,1,2,3,4];decide),mr_⟩
    rw [uk4_e (fld_r hy g3) (by omega)] at h
    rw [stp_e (by omega)]
    exact fun k1 f1 t1 a1 y1 b1 l1 c1 ys e1 E2 hE2=>h k1 f1 t1 a1 y1 b1 l1 c1 ys e1 E2 (mt_ hE1 hE2)
   ·have g3:(0)<=n/\n<=2000000:=by simp at g3;omega
    refine Lp_re [some 0,some 1,some 2,some 3,some 4] (ih e' 0 n E1 hE1 ?_) ⟨⟨Nat.zero_le _,Nat.zero_le _,fun j h=>absurd h (Nat.not_lt_zero _)⟩,rfl,(by repeat' first|exact True.intro|refine And.intro (Or.inl rfl) ?_),(by repeat' first|exact True.intro|exact rfl|exact Or.inl rfl|exact Nat.succ_pos _|refine And.intro ?_ ?_),(by show List.Nodup [0,1,2,3,4];decide),mr_⟩
    rw [uk4_o (fld_o hy g3)] at h
    rw [stp_0]
    exact fun k1 f1 t1 a1 y1 b1 l1 c1 ys e1 E2 hE2=>h k1 f1 t1 a1 y1 b1 l1 c1 ys e1 E2 (mt_ hE1 hE2)
  ·have g2:e2≠0:=by simpa using g2
   refine Lp_re [some 0,some 1,some 2,some 3,some 4] (ih e' e2 n E1 hE1 ?_) ⟨⟨Nat.zero_le _,Nat.zero_le _,fun j h=>absurd h (Nat.not_lt_zero _)⟩,rfl,(by repeat' first|exact True.intro|refine And.intro (Or.inl rfl) ?_),(by repeat' first|exact True.intro|exact rfl|exact Or.inl rfl|exact Nat.succ_pos _|refine And.intro ?_ ?_),(by show List.Nodup [0,1,2,3,4];decide),mr_⟩
   rw [uk4_e (fld_e hy g2) g2] at h
   rw [stp_e g2]
   exact fun k1 f1 t1 a1 y1 b1 l1 c1 ys e1 E2 hE2=>h k1 f1 t1 a1 y1 b1 l1 c1 ys e1 E2 (mt_ hE1 hE2)
theorem lp23_4 (hB:Bs E b l c zs) (hl:l<=100000) (hE0:Mem.le E0 E) (h:∀ (k1 f1 t1 a1 y1:Int) (b1:Option Addr) (l1 c1:Nat) (ys:List Int) (e1:Int) (E':Mem),Mem.le E E'->Hyp (stp er (uk4 zs p k f t a)=([k1,f1,t1,a1,y1],ys,e1))->Bs E' b1 l1 c1 ys->K (.tup [.agg [I k1,I f1,I t1,I a1,I y1,L b1 l1 c1],I e1]) E'):
  Lp WG 6 Try.f30 [1,1,1,1,0,1,0] 0 (pubK E0 K) (sh23 b l c p er k f t a 0 4 E):=
 Lp_ind okWG (fun _:Unit=>sh23 b l c p er k f t a 0 4 E) (fun _=>0) (fun _ _=>rnd23_4 hB hl hE0 h (fun p' e' v E1 hE1 h1=>lp23_5 (hB.mono hE1) hl (mt_ hE0 hE1) h1)) ()
theorem rnd23_3 (hB:Bs E b l c zs) (hl:l<=100000) (hE0:Mem.le E0 E) (h:∀ (k1 f1 t1 a1 y1:Int) (b1:Option Addr) (l1 c1:Nat) (ys:List Int) (e1:Int) (E':Mem),Mem.le E E'->Hyp (stp er (uk3 zs p k f t)=([k1,f1,t1,a1,y1],ys,e1))->Bs E' b1 l1 c1 ys->K (.tup [.agg [I k1,I f1,I t1,I a1,I y1,L b1 l1 c1],I e1]) E')
  (ih:∀ (p' e' v:Int) (E1:Mem),Mem.le E E1->(∀ (k1 f1 t1 a1 y1:Int) (b1:Option Addr) (l1 c1:Nat) (ys:List Int) (e1:Int) (E':Mem),Mem.le E1 E'->Hyp (stp e' (uk4 zs p' k f t v)=([k1,f1,t1,a1,y1],ys,e1))->Bs E' b1 l1 c1 ys->K (.tup [.agg [I k1,I f1,I t1,I a1,I y1,L b1 l1 c1],I e1]) E')->Lp WG 6 Try.f30 [1,1,1,1,0,1,0] 0 (pubK E0 K) (sh23 b l c p' e' k f t v 0 4 E1)):
  Rnd WG 6 Try.f30 [1,1,1,1,0,1,0] 0 (pubK E0 K) (sh23 b l c p er k f t 0 0 3 E):=by
 refine sm_ (?_:bif er !=(0:Int) then Lp WG 6 Try.f30 [1,1,1,1,0,1,0] 0 (pubK E0 K) { fr:=none::oc 0 0::oc 1 0::oI 0::oc 2 0::oc 3 0::some (SV.clo 60 [] [SV.loc 3 0,SV.loc 0 0,SV.loc 2 0])::oc 4 0::no4 (no2 (some (SV.agg [I 1,I 4,I 0,I 59,I (-1),I 59,I 0,I 1000000000,I 0,I 2000000])::oI 4::no32 (no8 (no2 (none::[]))))),bx:=[(⟨35,.lst [L b l c],1,true⟩:Box),⟨69,.lst [I 0,I 0,I 0,I 0,I 0,L none 0 0],6,true⟩,⟨3,.lst [I p],1,true⟩,⟨43,.lst [I er],1,true⟩,⟨114,.lst [I k,I f,I t,I 0,I 0],5,true⟩,⟨116,.lst [I 0,I 1000000000],2,true⟩,⟨116,.lst [I 0,I 1000000000],2,true⟩],E:=E:St } else ∃ (zs:List Int),Bs E b l c zs/\l<=100000/\∀ (n end' e:Int) (E':Mem),Mem.le E E'->Hyp (rd zs p=(n,end',e))->Mem.le E E'/\bif e==(0:Int) then Mem.le E' E'/\bif bif true then !decide ((0:Int)<=n/\n<=(1000000000:Int)) else false then Lp WG 6 Try.f30 [1,1,1,1,0,1,0] 0 (pubK E0 K) { fr:=none::oc 0 0::oc 1 0::oI 0::oc 2 0::oc 3 0::some (SV.clo 60 [] [SV.loc 3 0,SV.loc 0 0,SV.loc 2 0])::oc 4 0::no4 (no2 (some (SV.agg [I 1,I 4,I 0,I 59,I (-1),I 59,I 0,I 1000000000,I 0,I 2000000])::oI 4::no32 (no8 (no2 (none::[]))))),bx:=[(⟨35,.lst [L b l c],1,true⟩:Box),⟨69,.lst [I 0,I 0,I 0,I 0,I 0,L none 0 0],6,true⟩,⟨3,.lst [I end'],1,true⟩,⟨43,.lst [I 3],1,true⟩,⟨114,.lst [I k,I f,I t,I n,I 0],5,true⟩,⟨116,.lst [I 0,I 1000000000],2,true⟩,⟨116,.lst [I 0,I 1000000000],2,true⟩],E:=E':St } else Lp WG 6 Try.f30 [1,1,1,1,0,1,0] 0 (pubK E0 K) { fr:=none::oc 0 0::oc 1 0::oI 0::oc 2 0::oc 3 0::some (SV.clo 60 [] [SV.loc 3 0,SV.loc 0 0,SV.loc 2 0])::oc 4 0::no4 (no2 (some (SV.agg [I 1,I 4,I 0,I 59,I (-1),I 59,I 0,I 1000000000,I 0,I 2000000])::oI 4::no32 (no8 (no2 (none::[]))))),bx:=[(⟨35,.lst [L b l c],1,true⟩:Box),⟨69,.lst [I 0,I 0,I 0,I 0,I 0,L none 0 0],6,true⟩,⟨3,.lst [I end'],1,true⟩,⟨43,.lst [I e],1,true⟩,⟨114,.lst [I k,I f,I t,I n,I 0],5,true⟩,⟨116,.lst [I 0,I 1000000000],2,true⟩,⟨116,.lst [I 0,I 1000000000],2,true⟩],E:=E':St } else Lp WG 6 Try.f30 [1,1,1,1,0,1,0] 0 (pubK E0 K) { fr:=none::oc 0 0::oc 1 0::oI 0::oc 2 0::oc 3 0::some (SV.clo 60 [] [SV.loc 3 0,SV.loc 0 0,SV.loc 2 0])::oc 4 0::no4 (no2 (some (SV.agg [I 1,I 4,I 0,I 59,I (-1),I 59,I 0,I 1000000000,I 0,I 2000000])::oI 4::no32 (no8 (no2 (none::[]))))),bx:=[(⟨35,.lst [L b l c],1,true⟩:Box),⟨69,.lst [I 0,I 0,I 0,I 0,I 0,L none 0 0],6,true⟩,⟨3,.lst [I end'],1,true⟩,⟨43,.lst [I e],1,true⟩,⟨114,.lst [I k,I f,I t,I n,I 0],5,true⟩,⟨116,.lst [I 0,I 1000000000],2,true⟩,⟨116,.lst [I 0,I 1000000000],2,true⟩],E:=E':St })
 delta no2 no4 no8 no32
 refine condC (fun g=>?_) (fun g=>?_)
 ·have g:er≠0:=by simpa using g
  refine Lp_re [some 0,some 1,some 2,some 3,some 4] (ih p er 0 E mr_ ?_) ⟨⟨Nat.zero_le _,Nat.zero_le _,fun j h=>absurd h (Nat.not_lt_zero _)⟩,rfl,(by repeat' first|exact True.intro|refine And.intro (Or.inl rfl) ?_),(by repeat' first|exact True.intro|exact rfl|exact Or.inl rfl|exact Nat.succ_pos _|refine And.intro ?_ ?_),(by show List.Nodup [0,1,2,3,4];decide),mr_⟩
  rw [stp_e g] at h ⊢
  exact h
 ·have g:er=0:=by simpa using g
  subst g
  rw [stp_0] at h
  refine ⟨zs,hB,hl,fun n e' e2 E1 hE1 hy=>⟨hE1,?_⟩⟩
  have hy:rd zs p=(n,e',e2):=hy
  refine condC (fun g2=>?_) (fun g2=>?_)
  ·have g2:e2=0:=by simpa using g2
   subst g2
   refine ⟨mr_,condC (fun g3=>?_) (fun g3=>?_)⟩
   ·have g3:¬ ((0)<=n/\n<=1000000000):=by simp at g3;omega
    refine Lp_re [some 0,some 1,some 2,some 3,some 4] (ih e' 3 n E1 hE1 ?_) ⟨⟨Nat.zero_le _,Nat.zero_le _,fun j h=>absurd h (Nat.not_lt_zero _)⟩,rfl,(by repeat' first|exact True.intro|refine And.intro (Or.inl rfl) ?_),(by repeat' first|exact True.intro|exact rfl|exact Or.inl rfl|exact Nat.succ_pos _|refine And.intro ?_ ?_),(by show List.Nodup [0,1,2,3,4];decide),mr_⟩
    rw [uk3_e (fld_r hy g3) (by omega)] at h
    rw [stp_e (by omega)]
    exact fun k1 f1 t1 a1 y1 b1 l1 c1 ys e1 E2 hE2=>h k1 f1 t1 a1 y1 b1 l1 c1 ys e1 E2 (mt_ hE1 hE2)
   ·have g3:(0)<=n/\n<=1000000000:=by simp at g3;omega
    refine Lp_re [some 0,some 1,some 2,some 3,some 4] (ih e' 0 n E1 hE1 ?_) ⟨⟨Nat.zero_le _,Nat.zero_le _,fun j h=>absurd h (Nat.not_lt_zero _)⟩,rfl,(by repeat' first|exact True.intro|refine And.intro (Or.inl rfl) ?_),(by repeat' first|exact True.intro|exact rfl|exact Or.inl rfl|exact Nat.succ_pos _|refine And.intro ?_ ?_),(by show List.Nodup [0,1,2,3,4];decide),mr_⟩
    rw [uk3_o (fld_o hy g3)] at h
    rw [stp_0]
    exact fun k1 f1 t1 a1 y1 b1 l1 c1 ys e1 E2 hE2=>h k1 f1 t1 a1 y1 b1 l1 c1 ys e1 E2 (mt_ hE1 hE2)
  ·have g2:e2≠0:=by simpa using g2
   refine Lp_re [some 0,some 1,some 2,some 3,some 4] (ih e' e2 n E1 hE1 ?_) ⟨⟨Nat.zero_le _,Nat.zero_le _,fun j h=>absurd h (Nat.not_lt_zero _)⟩,rfl,(by repeat' first|exact True.intro|refine And.intro (Or.inl rfl) ?_),(by repeat' first|exact True.intro|exact rfl|exact Or.inl rfl|exact Nat.succ_pos _|refine And.intro ?_ ?_),(by show List.Nodup [0,1,2,3,4];decide),mr_⟩
   rw [uk3_e (fld_e hy g2) g2] at h
   rw [stp_e g2]
   exact fun k1 f1 t1 a1 y1 b1 l1 c1 ys e1 E2 hE2=>h k1 f1 t1 a1 y1 b1 l1 c1 ys e1 E2 (mt_ hE1 hE2)
theorem lp23_3 (hB:Bs E b l c zs) (hl:l<=100000) (hE0:Mem.le E0 E) (h:∀ (k1 f1 t1 a1 y1:Int) (b1:Option Addr) (l1 c1:Nat) (ys:List Int) (e1:Int) (E':Mem),Mem.le E E'->Hyp (stp er (uk3 zs p k f t)=([k1,f1,t1,a1,y1],ys,e1))->Bs E' b1 l1 c1 ys->K (.tup [.agg [I k1,I f1,I t1,I a1,I y1,L b1 l1 c1],I e1]) E'):
  Lp WG 6 Try.f30 [1,1,1,1,0,1,0] 0 (pubK E0 K) (sh23 b l c p er k f t 0 0 3 E):=
 Lp_ind okWG (fun _:Unit=>sh23 b l c p er k f t 0 0 3 E) (fun _=>0) (fun _ _=>rnd23_3 hB hl hE0 h (fun p' e' v E1 hE1 h1=>lp23_4 (hB.mono hE1) hl (mt_ hE0 hE1) h1)) ()
theorem rnd23_2 (hB:Bs E b l c zs) (hl:l<=100000) (hE0:Mem.le E0 E) (h:∀ (k1 f1 t1 a1 y1:Int) (b1:Option Addr) (l1 c1:Nat) (ys:List Int) (e1:Int) (E':Mem),Mem.le E E'->Hyp (stp er (uk2 zs p k f)=([k1,f1,t1,a1,y1],ys,e1))->Bs E' b1 l1 c1 ys->K (.tup [.agg [I k1,I f1,I t1,I a1,I y1,L b1 l1 c1],I e1]) E')
  (ih:∀ (p' e' v:Int) (E1:Mem),Mem.le E E1->(∀ (k1 f1 t1 a1 y1:Int) (b1:Option Addr) (l1 c1:Nat) (ys:List Int) (e1:Int) (E':Mem),Mem.le E1 E'->Hyp (stp e' (uk3 zs p' k f v)=([k1,f1,t1,a1,y1],ys,e1))->Bs E' b1 l1 c1 ys->K (.tup [.agg [I k1,I f1,I t1,I a1,I y1,L b1 l1 c1],I e1]) E')->Lp WG 6 Try.f30 [1,1,1,1,0,1,0] 0 (pubK E0 K) (sh23 b l c p' e' k f v 0 0 3 E1)):
  Rnd WG 6 Try.f30 [1,1,1,1,0,1,0] 0 (pubK E0 K) (sh23 b l c p er k f 0 0 0 2 E):=by
 refine sm_ (?_:bif er !=(0:Int) then Lp WG 6 Try.f30 [1,1,1,1,0,1,0] 0 (pubK E0 K) { fr:=none::oc 0 0::oc 1 0::oI 0::oc 2 0::oc 3 0::some (SV.clo 60 [] [SV.loc 3 0,SV.loc 0 0,SV.loc 2 0])::oc 4 0::no4 (no2 (some (SV.agg [I 1,I 4,I 0,I 59,I (-1),I 59,I 0,I 1000000000,I 0,I 2000000])::oI 3::no32 (no8 (no2 (none::[]))))),bx:=[(⟨35,.lst [L b l c],1,true⟩:Box),⟨69,.lst [I 0,I 0,I 0,I 0,I 0,L none 0 0],6,true⟩,⟨3,.lst [I p],1,true⟩,⟨43,.lst [I er],1,true⟩,⟨114,.lst [I k,I f,I 0,I 0,I 0],5,true⟩,⟨116,.lst [I (-1),I 59],2,true⟩,⟨116,.lst [I (-1),I 59],2,true⟩],E:=E:St } else ∃ (zs:List Int),Bs E b l c zs/\l<=100000/\∀ (n end' e:Int) (E':Mem),Mem.le E E'->Hyp (rd zs p=(n,end',e))->Mem.le E E'/\bif e==(0:Int) then Mem.le E' E'/\bif bif true then !decide ((-1:Int)<=n/\n<=(59:Int)) else false then Lp WG 6 Try.f30 [1,1,1,1,0,1,0] 0 (pubK E0 K) { fr:=none::oc 0 0::oc 1 0::oI 0::oc 2 0::oc 3 0::some (SV.clo 60 [] [SV.loc 3 0,SV.loc 0 0,SV.loc 2 0])::oc 4 0::no4 (no2 (some (SV.agg [I 1,I 4,I 0,I 59,I (-1),I 59,I 0,I 1000000000,I 0,I 2000000])::oI 3::no32 (no8 (no2 (none::[]))))),bx:=[(⟨35,.lst [L b l c],1,true⟩:Box),⟨69,.lst [I 0,I 0,I 0,I 0,I 0,L none 0 0],6,true⟩,⟨3,.lst [I end'],1,true⟩,⟨43,.lst [I 3],1,true⟩,⟨114,.lst [I k,I f,I n,I 0,I 0],5,true⟩,⟨116,.lst [I (-1),I 59],2,true⟩,⟨116,.lst [I (-1),I 59],2,true⟩],E:=E':St } else Lp WG 6 Try.f30 [1,1,1,1,0,1,0] 0 (pubK E0 K) { fr:=none::oc 0 0::oc 1 0::oI 0::oc 2 0::oc 3 0::some (SV.clo 60 [] [SV.loc 3 0,SV.loc 0 0,SV.loc 2 0])::oc 4 0::no4 (no2 (some (SV.agg [I 1,I 4,I 0,I 59,I (-1),I 59,I 0,I 1000000000,I 0,I 2000000])::oI 3::no32 (no8 (no2 (none::[]))))),bx:=[(⟨35,.lst [L b l c],1,true⟩:Box),⟨69,.lst [I 0,I 0,I 0,I 0,I 0,L none 0 0],6,true⟩,⟨3,.lst [I end'],1,true⟩,⟨43,.lst [I e],1,true⟩,⟨114,.lst [I k,I f,I n,I 0,I 0],5,true⟩,⟨116,.lst [I (-1),I 59],2,true⟩,⟨116,.lst [I (-1),I 59],2,true⟩],E:=E':St } else Lp WG 6 Try.f30 [1,1,1,1,0,1,0] 0 (pubK E0 K) { fr:=none::oc 0 0::oc 1 0::oI 0::oc 2 0::oc 3 0::some (SV.clo 60 [] [SV.loc 3 0,SV.loc 0 0,SV.loc 2 0])::oc 4 0::no4 (no2 (some (SV.agg [I 1,I 4,I 0,I 59,I (-1),I 59,I 0,I 1000000000,I 0,I 2000000])::oI 3::no32 (no8 (no2 (none::[]))))),bx:=[(⟨35,.lst [L b l c],1,true⟩:Box),⟨69,.lst [I 0,I 0,I 0,I 0,I 0,L none 0 0],6,true⟩,⟨3,.lst [I end'],1,true⟩,⟨43,.lst [I e],1,true⟩,⟨114,.lst [I k,I f,I n,I 0,I 0],5,true⟩,⟨116,.lst [I (-1),I 59],2,true⟩,⟨116,.lst [I (-1),I 59],2,true⟩],E:=E':St })
 delta no2 no4 no8 no32
 refine condC (fun g=>?_) (fun g=>?_)
 ·have g:er≠0:=by simpa using g
  refine Lp_re [some 0,some 1,some 2,some 3,some 4] (ih p er 0 E mr_ ?_) ⟨⟨Nat.zero_le _,Nat.zero_le _,fun j h=>absurd h (Nat.not_lt_zero _)⟩,rfl,(by repeat' first|exact True.intro|refine And.intro (Or.inl rfl) ?_),(by repeat' first|exact True.intro|exact rfl|exact Or.inl rfl|exact Nat.succ_pos _|refine And.intro ?_ ?_),(by show List.Nodup [0,1,2,3,4];decide),mr_⟩
  rw [stp_e g] at h ⊢
  exact h
 ·have g:er=0:=by simpa using g
  subst g
  rw [stp_0] at h
  refine ⟨zs,hB,hl,fun n e' e2 E1 hE1 hy=>⟨hE1,?_⟩⟩
  have hy:rd zs p=(n,e',e2):=hy
  refine condC (fun g2=>?_) (fun g2=>?_)
  ·have g2:e2=0:=by simpa using g2
   subst g2
   refine ⟨mr_,condC (fun g3=>?_) (fun g3=>?_)⟩
   ·have g3:¬ ((-1)<=n/\n<=59):=by simp at g3;omega
    refine Lp_re [some 0,some 1,some 2,some 3,some 4] (ih e' 3 n E1 hE1 ?_) ⟨⟨Nat.zero_le _,Nat.zero_le _,fun j h=>absurd h (Nat.not_lt_zero _)⟩,rfl,(by repeat' first|exact True.intro|refine And.intro (Or.inl rfl) ?_),(by repeat' first|exact True.intro|exact rfl|exact Or.inl rfl|exact Nat.succ_pos _|refine And.intro ?_ ?_),(by show List.Nodup [0,1,2,3,4];decide),mr_⟩
    rw [uk2_e (fld_r hy g3) (by omega)] at h
    rw [stp_e (by omega)]
    exact fun k1 f1 t1 a1 y1 b1 l1 c1 ys e1 E2 hE2=>h k1 f1 t1 a1 y1 b1 l1 c1 ys e1 E2 (mt_ hE1 hE2)
   ·have g3:(-1)<=n/\n<=59:=by simp at g3;omega
    refine Lp_re [some 0,some 1,some 2,some 3,some 4] (ih e' 0 n E1 hE1 ?_) ⟨⟨Nat.zero_le _,Nat.zero_le _,fun j h=>absurd h (Nat.not_lt_zero _)⟩,rfl,(by repeat' first|exact True.intro|refine And.intro (Or.inl rfl) ?_),(by repeat' first|exact True.intro|exact rfl|exact Or.inl rfl|exact Nat.succ_pos _|refine And.intro ?_ ?_),(by show List.Nodup [0,1,2,3,4];decide),mr_⟩
    rw [uk2_o (fld_o hy g3)] at h
    rw [stp_0]
    exact fun k1 f1 t1 a1 y1 b1 l1 c1 ys e1 E2 hE2=>h k1 f1 t1 a1 y1 b1 l1 c1 ys e1 E2 (mt_ hE1 hE2)
  ·have g2:e2≠0:=by simpa using g2
   refine Lp_re [some 0,some 1,some 2,some 3,some 4] (ih e' e2 n E1 hE1 ?_) ⟨⟨Nat.zero_le _,Nat.zero_le _,fun j h=>absurd h (Nat.not_lt_zero _)⟩,rfl,(by repeat' first|exact True.intro|refine And.intro (Or.inl rfl) ?_),(by repeat' first|exact True.intro|exact rfl|exact Or.inl rfl|exact Nat.succ_pos _|refine And.intro ?_ ?_),(by show List.Nodup [0,1,2,3,4];decide),mr_⟩
   rw [uk2_e (fld_e hy g2) g2] at h
   rw [stp_e g2]
   exact fun k1 f1 t1 a1 y1 b1 l1 c1 ys e1 E2 hE2=>h k1 f1 t1 a1 y1 b1 l1 c1 ys e1 E2 (mt_ hE1 hE2)
theorem lp23_2 (hB:Bs E b l c zs) (hl:l<=100000) (hE0:Mem.le E0 E) (h:∀ (k1 f1 t1 a1 y1:Int) (b1:Option Addr) (l1 c1:Nat) (ys:List Int) (e1:Int) (E':Mem),Mem.le E E'->Hyp (stp er (uk2 zs p k f)=([k1,f1,t1,a1,y1],ys,e1))->Bs E' b1 l1 c1 ys->K (.tup [.agg [I k1,I f1,I t1,I a1,I y1,L b1 l1 c1],I e1]) E'):
  Lp WG 6 Try.f30 [1,1,1,1,0,1,0] 0 (pubK E0 K) (sh23 b l c p er k f 0 0 0 2 E):=
 Lp_ind okWG (fun _:Unit=>sh23 b l c p er k f 0 0 0 2 E) (fun _=>0) (fun _ _=>rnd23_2 hB hl hE0 h (fun p' e' v E1 hE1 h1=>lp23_3 (hB.mono hE1) hl (mt_ hE0 hE1) h1)) ()
theorem rnd23_1 (hB:Bs E b l c zs) (hl:l<=100000) (hE0:Mem.le E0 E) (h:∀ (k1 f1 t1 a1 y1:Int) (b1:Option Addr) (l1 c1:Nat) (ys:List Int) (e1:Int) (E':Mem),Mem.le E E'->Hyp (stp er (uk1 zs p k)=([k1,f1,t1,a1,y1],ys,e1))->Bs E' b1 l1 c1 ys->K (.tup [.agg [I k1,I f1,I t1,I a1,I y1,L b1 l1 c1],I e1]) E')
  (ih:∀ (p' e' v:Int) (E1:Mem),Mem.le E E1->(∀ (k1 f1 t1 a1 y1:Int) (b1:Option Addr) (l1 c1:Nat) (ys:List Int) (e1:Int) (E':Mem),Mem.le E1 E'->Hyp (stp e' (uk2 zs p' k v)=([k1,f1,t1,a1,y1],ys,e1))->Bs E' b1 l1 c1 ys->K (.tup [.agg [I k1,I f1,I t1,I a1,I y1,L b1 l1 c1],I e1]) E')->Lp WG 6 Try.f30 [1,1,1,1,0,1,0] 0 (pubK E0 K) (sh23 b l c p' e' k v 0 0 0 2 E1)):
  Rnd WG 6 Try.f30 [1,1,1,1,0,1,0] 0 (pubK E0 K) (sh23 b l c p er k 0 0 0 0 1 E):=by
 refine sm_ (?_:bif er !=(0:Int) then Lp WG 6 Try.f30 [1,1,1,1,0,1,0] 0 (pubK E0 K) { fr:=none::oc 0 0::oc 1 0::oI 0::oc 2 0::oc 3 0::some (SV.clo 60 [] [SV.loc 3 0,SV.loc 0 0,SV.loc 2 0])::oc 4 0::no4 (no2 (some (SV.agg [I 1,I 4,I 0,I 59,I (-1),I 59,I 0,I 1000000000,I 0,I 2000000])::oI 2::no32 (no8 (no2 (none::[]))))),bx:=[(⟨35,.lst [L b l c],1,true⟩:Box),⟨69,.lst [I 0,I 0,I 0,I 0,I 0,L none 0 0],6,true⟩,⟨3,.lst [I p],1,true⟩,⟨43,.lst [I er],1,true⟩,⟨114,.lst [I k,I 0,I 0,I 0,I 0],5,true⟩,⟨116,.lst [I 0,I 59],2,true⟩,⟨116,.lst [I 0,I 59],2,true⟩],E:=E:St } else ∃ (zs:List Int),Bs E b l c zs/\l<=100000/\∀ (n end' e:Int) (E':Mem),Mem.le E E'->Hyp (rd zs p=(n,end',e))->Mem.le E E'/\bif e==(0:Int) then Mem.le E' E'/\bif bif true then !decide ((0:Int)<=n/\n<=(59:Int)) else false then Lp WG 6 Try.f30 [1,1,1,1,0,1,0] 0 (pubK E0 K) { fr:=none::oc 0 0::oc 1 0::oI 0::oc 2 0::oc 3 0::some (SV.clo 60 [] [SV.loc 3 0,SV.loc 0 0,SV.loc 2 0])::oc 4 0::no4 (no2 (some (SV.agg [I 1,I 4,I 0,I 59,I (-1),I 59,I 0,I 1000000000,I 0,I 2000000])::oI 2::no32 (no8 (no2 (none::[]))))),bx:=[(⟨35,.lst [L b l c],1,true⟩:Box),⟨69,.lst [I 0,I 0,I 0,I 0,I 0,L none 0 0],6,true⟩,⟨3,.lst [I end'],1,true⟩,⟨43,.lst [I 3],1,true⟩,⟨114,.lst [I k,I n,I 0,I 0,I 0],5,true⟩,⟨116,.lst [I 0,I 59],2,true⟩,⟨116,.lst [I 0,I 59],2,true⟩],E:=E':St } else Lp WG 6 Try.f30 [1,1,1,1,0,1,0] 0 (pubK E0 K) { fr:=none::oc 0 0::oc 1 0::oI 0::oc 2 0::oc 3 0::some (SV.clo 60 [] [SV.loc 3 0,SV.loc 0 0,SV.loc 2 0])::oc 4 0::no4 (no2 (some (SV.agg [I 1,I 4,I 0,I 59,I (-1),I 59,I 0,I 1000000000,I 0,I 2000000])::oI 2::no32 (no8 (no2 (none::[]))))),bx:=[(⟨35,.lst [L b l c],1,true⟩:Box),⟨69,.lst [I 0,I 0,I 0,I 0,I 0,L none 0 0],6,true⟩,⟨3,.lst [I end'],1,true⟩,⟨43,.lst [I e],1,true⟩,⟨114,.lst [I k,I n,I 0,I 0,I 0],5,true⟩,⟨116,.lst [I 0,I 59],2,true⟩,⟨116,.lst [I 0,I 59],2,true⟩],E:=E':St } else Lp WG 6 Try.f30 [1,1,1,1,0,1,0] 0 (pubK E0 K) { fr:=none::oc 0 0::oc 1 0::oI 0::oc 2 0::oc 3 0::some (SV.clo 60 [] [SV.loc 3 0,SV.loc 0 0,SV.loc 2 0])::oc 4 0::no4 (no2 (some (SV.agg [I 1,I 4,I 0,I 59,I (-1),I 59,I 0,I 1000000000,I 0,I 2000000])::oI 2::no32 (no8 (no2 (none::[]))))),bx:=[(⟨35,.lst [L b l c],1,true⟩:Box),⟨69,.lst [I 0,I 0,I 0,I 0,I 0,L none 0 0],6,true⟩,⟨3,.lst [I end'],1,true⟩,⟨43,.lst [I e],1,true⟩,⟨114,.lst [I k,I n,I 0,I 0,I 0],5,true⟩,⟨116,.lst [I 0,I 59],2,true⟩,⟨116,.lst [I 0,I 59],2,true⟩],E:=E':St })
 delta no2 no4 no8 no32
 refine condC (fun g=>?_) (fun g=>?_)
 ·have g:er≠0:=by simpa using g
  refine Lp_re [some 0,some 1,some 2,some 3,some 4] (ih p er 0 E mr_ ?_) ⟨⟨Nat.zero_le _,Nat.zero_le _,fun j h=>absurd h (Nat.not_lt_zero _)⟩,rfl,(by repeat' first|exact True.intro|refine And.intro (Or.inl rfl) ?_),(by repeat' first|exact True.intro|exact rfl|exact Or.inl rfl|exact Nat.succ_pos _|refine And.intro ?_ ?_),(by show List.Nodup [0,1,2,3,4];decide),mr_⟩
  rw [stp_e g] at h ⊢
  exact h
 ·have g:er=0:=by simpa using g
  subst g
  rw [stp_0] at h
  refine ⟨zs,hB,hl,fun n e' e2 E1 hE1 hy=>⟨hE1,?_⟩⟩
  have hy:rd zs p=(n,e',e2):=hy
  refine condC (fun g2=>?_) (fun g2=>?_)
  ·have g2:e2=0:=by simpa using g2
   subst g2
   refine ⟨mr_,condC (fun g3=>?_) (fun g3=>?_)⟩
   ·have g3:¬ ((0)<=n/\n<=59):=by simp at g3;omega
    refine Lp_re [some 0,some 1,some 2,some 3,some 4] (ih e' 3 n E1 hE1 ?_) ⟨⟨Nat.zero_le _,Nat.zero_le _,fun j h=>absurd h (Nat.not_lt_zero _)⟩,rfl,(by repeat' first|exact True.intro|refine And.intro (Or.inl rfl) ?_),(by repeat' first|exact True.intro|exact rfl|exact Or.inl rfl|exact Nat.succ_pos _|refine And.intro ?_ ?_),(by show List.Nodup [0,1,2,3,4];decide),mr_⟩
    rw [uk1_e (fld_r hy g3) (by omega)] at h
    rw [stp_e (by omega)]
    exact fun k1 f1 t1 a1 y1 b1 l1 c1 ys e1 E2 hE2=>h k1 f1 t1 a1 y1 b1 l1 c1 ys e1 E2 (mt_ hE1 hE2)
   ·have g3:(0)<=n/\n<=59:=by simp at g3;omega
    refine Lp_re [some 0,some 1,some 2,some 3,some 4] (ih e' 0 n E1 hE1 ?_) ⟨⟨Nat.zero_le _,Nat.zero_le _,fun j h=>absurd h (Nat.not_lt_zero _)⟩,rfl,(by repeat' first|exact True.intro|refine And.intro (Or.inl rfl) ?_),(by repeat' first|exact True.intro|exact rfl|exact Or.inl rfl|exact Nat.succ_pos _|refine And.intro ?_ ?_),(by show List.Nodup [0,1,2,3,4];decide),mr_⟩
    rw [uk1_o (fld_o hy g3)] at h
    rw [stp_0]
    exact fun k1 f1 t1 a1 y1 b1 l1 c1 ys e1 E2 hE2=>h k1 f1 t1 a1 y1 b1 l1 c1 ys e1 E2 (mt_ hE1 hE2)
  ·have g2:e2≠0:=by simpa using g2
   refine Lp_re [some 0,some 1,some 2,some 3,some 4] (ih e' e2 n E1 hE1 ?_) ⟨⟨Nat.zero_le _,Nat.zero_le _,fun j h=>absurd h (Nat.not_lt_zero _)⟩,rfl,(by repeat' first|exact True.intro|refine And.intro (Or.inl rfl) ?_),(by repeat' first|exact True.intro|exact rfl|exact Or.inl rfl|exact Nat.succ_pos _|refine And.intro ?_ ?_),(by show List.Nodup [0,1,2,3,4];decide),mr_⟩
   rw [uk1_e (fld_e hy g2) g2] at h
   rw [stp_e g2]
   exact fun k1 f1 t1 a1 y1 b1 l1 c1 ys e1 E2 hE2=>h k1 f1 t1 a1 y1 b1 l1 c1 ys e1 E2 (mt_ hE1 hE2)
theorem lp23_1 (hB:Bs E b l c zs) (hl:l<=100000) (hE0:Mem.le E0 E) (h:∀ (k1 f1 t1 a1 y1:Int) (b1:Option Addr) (l1 c1:Nat) (ys:List Int) (e1:Int) (E':Mem),Mem.le E E'->Hyp (stp er (uk1 zs p k)=([k1,f1,t1,a1,y1],ys,e1))->Bs E' b1 l1 c1 ys->K (.tup [.agg [I k1,I f1,I t1,I a1,I y1,L b1 l1 c1],I e1]) E'):
  Lp WG 6 Try.f30 [1,1,1,1,0,1,0] 0 (pubK E0 K) (sh23 b l c p er k 0 0 0 0 1 E):=
 Lp_ind okWG (fun _:Unit=>sh23 b l c p er k 0 0 0 0 1 E) (fun _=>0) (fun _ _=>rnd23_1 hB hl hE0 h (fun p' e' v E1 hE1 h1=>lp23_2 (hB.mono hE1) hl (mt_ hE0 hE1) h1)) ()
theorem rnd23_0 (hB:Bs E b l c zs) (hl:l<=100000) (hE0:Mem.le E0 E) (h:∀ (k1 f1 t1 a1 y1:Int) (b1:Option Addr) (l1 c1:Nat) (ys:List Int) (e1:Int) (E':Mem),Mem.le E E'->Hyp (stp er (uk0 zs p)=([k1,f1,t1,a1,y1],ys,e1))->Bs E' b1 l1 c1 ys->K (.tup [.agg [I k1,I f1,I t1,I a1,I y1,L b1 l1 c1],I e1]) E')
  (ih:∀ (p' e' v:Int) (E1:Mem),Mem.le E E1->(∀ (k1 f1 t1 a1 y1:Int) (b1:Option Addr) (l1 c1:Nat) (ys:List Int) (e1:Int) (E':Mem),Mem.le E1 E'->Hyp (stp e' (uk1 zs p' v)=([k1,f1,t1,a1,y1],ys,e1))->Bs E' b1 l1 c1 ys->K (.tup [.agg [I k1,I f1,I t1,I a1,I y1,L b1 l1 c1],I e1]) E')->Lp WG 6 Try.f30 [1,1,1,1,0,1,0] 0 (pubK E0 K) (sh23 b l c p' e' v 0 0 0 0 1 E1)):
  Rnd WG 6 Try.f30 [1,1,1,1,0,1,0] 0 (pubK E0 K) (sh23 b l c p er 0 0 0 0 0 0 E):=by
 refine sm_ (?_:bif er !=(0:Int) then Lp WG 6 Try.f30 [1,1,1,1,0,1,0] 0 (pubK E0 K) { fr:=none::oc 0 0::oc 1 0::oI 0::oc 2 0::oc 3 0::some (SV.clo 60 [] [SV.loc 3 0,SV.loc 0 0,SV.loc 2 0])::oc 4 0::no4 (no2 (some (SV.agg [I 1,I 4,I 0,I 59,I (-1),I 59,I 0,I 1000000000,I 0,I 2000000])::oI 1::no32 (no8 (no2 (none::[]))))),bx:=[(⟨35,.lst [L b l c],1,true⟩:Box),⟨69,.lst [I 0,I 0,I 0,I 0,I 0,L none 0 0],6,true⟩,⟨3,.lst [I p],1,true⟩,⟨43,.lst [I er],1,true⟩,⟨114,.lst [I 0,I 0,I 0,I 0,I 0],5,true⟩,⟨116,.lst [I 1,I 4],2,true⟩,⟨116,.lst [I 1,I 4],2,true⟩],E:=E:St } else ∃ (zs:List Int),Bs E b l c zs/\l<=100000/\∀ (n end' e:Int) (E':Mem),Mem.le E E'->Hyp (rd zs p=(n,end',e))->Mem.le E E'/\bif e==(0:Int) then Mem.le E' E'/\bif bif true then !decide ((1:Int)<=n/\n<=(4:Int)) else false then Lp WG 6 Try.f30 [1,1,1,1,0,1,0] 0 (pubK E0 K) { fr:=none::oc 0 0::oc 1 0::oI 0::oc 2 0::oc 3 0::some (SV.clo 60 [] [SV.loc 3 0,SV.loc 0 0,SV.loc 2 0])::oc 4 0::no4 (no2 (some (SV.agg [I 1,I 4,I 0,I 59,I (-1),I 59,I 0,I 1000000000,I 0,I 2000000])::oI 1::no32 (no8 (no2 (none::[]))))),bx:=[(⟨35,.lst [L b l c],1,true⟩:Box),⟨69,.lst [I 0,I 0,I 0,I 0,I 0,L none 0 0],6,true⟩,⟨3,.lst [I end'],1,true⟩,⟨43,.lst [I 3],1,true⟩,⟨114,.lst [I n,I 0,I 0,I 0,I 0],5,true⟩,⟨116,.lst [I 1,I 4],2,true⟩,⟨116,.lst [I 1,I 4],2,true⟩],E:=E':St } else Lp WG 6 Try.f30 [1,1,1,1,0,1,0] 0 (pubK E0 K) { fr:=none::oc 0 0::oc 1 0::oI 0::oc 2 0::oc 3 0::some (SV.clo 60 [] [SV.loc 3 0,SV.loc 0 0,SV.loc 2 0])::oc 4 0::no4 (no2 (some (SV.agg [I 1,I 4,I 0,I 59,I (-1),I 59,I 0,I 1000000000,I 0,I 2000000])::oI 1::no32 (no8 (no2 (none::[]))))),bx:=[(⟨35,.lst [L b l c],1,true⟩:Box),⟨69,.lst [I 0,I 0,I 0,I 0,I 0,L none 0 0],6,true⟩,⟨3,.lst [I end'],1,true⟩,⟨43,.lst [I e],1,true⟩,⟨114,.lst [I n,I 0,I 0,I 0,I 0],5,true⟩,⟨116,.lst [I 1,I 4],2,true⟩,⟨116,.lst [I 1,I 4],2,true⟩],E:=E':St } else Lp WG 6 Try.f30 [1,1,1,1,0,1,0] 0 (pubK E0 K) { fr:=none::oc 0 0::oc 1 0::oI 0::oc 2 0::oc 3 0::some (SV.clo 60 [] [SV.loc 3 0,SV.loc 0 0,SV.loc 2 0])::oc 4 0::no4 (no2 (some (SV.agg [I 1,I 4,I 0,I 59,I (-1),I 59,I 0,I 1000000000,I 0,I 2000000])::oI 1::no32 (no8 (no2 (none::[]))))),bx:=[(⟨35,.lst [L b l c],1,true⟩:Box),⟨69,.lst [I 0,I 0,I 0,I 0,I 0,L none 0 0],6,true⟩,⟨3,.lst [I end'],1,true⟩,⟨43,.lst [I e],1,true⟩,⟨114,.lst [I n,I 0,I 0,I 0,I 0],5,true⟩,⟨116,.lst [I 1,I 4],2,true⟩,⟨116,.lst [I 1,I 4],2,true⟩],E:=E':St })
 delta no2 no4 no8 no32
 refine condC (fun g=>?_) (fun g=>?_)
 ·have g:er≠0:=by simpa using g
  refine Lp_re [some 0,some 1,some 2,some 3,some 4] (ih p er 0 E mr_ ?_) ⟨⟨Nat.zero_le _,Nat.zero_le _,fun j h=>absurd h (Nat.not_lt_zero _)⟩,rfl,(by repeat' first|exact True.intro|refine And.intro (Or.inl rfl) ?_),(by repeat' first|exact True.intro|exact rfl|exact Or.inl rfl|exact Nat.succ_pos _|refine And.intro ?_ ?_),(by show List.Nodup [0,1,2,3,4];decide),mr_⟩
  rw [stp_e g] at h ⊢
  exact h
 ·have g:er=0:=by simpa using g
  subst g
  rw [stp_0] at h
  refine ⟨zs,hB,hl,fun n e' e2 E1 hE1 hy=>⟨hE1,?_⟩⟩
  have hy:rd zs p=(n,e',e2):=hy
  refine condC (fun g2=>?_) (fun g2=>?_)
  ·have g2:e2=0:=by simpa using g2
   subst g2
   refine ⟨mr_,condC (fun g3=>?_) (fun g3=>?_)⟩
   ·have g3:¬ ((1)<=n/\n<=4):=by simp at g3;omega
    refine Lp_re [some 0,some 1,some 2,some 3,some 4] (ih e' 3 n E1 hE1 ?_) ⟨⟨Nat.zero_le _,Nat.zero_le _,fun j h=>absurd h (Nat.not_lt_zero _)⟩,rfl,(by repeat' first|exact True.intro|refine And.intro (Or.inl rfl) ?_),(by repeat' first|exact True.intro|exact rfl|exact Or.inl rfl|exact Nat.succ_pos _|refine And.intro ?_ ?_),(by show List.Nodup [0,1,2,3,4];decide),mr_⟩
    rw [uk0_e (fld_r hy g3) (by omega)] at h
    rw [stp_e (by omega)]
    exact fun k1 f1 t1 a1 y1 b1 l1 c1 ys e1 E2 hE2=>h k1 f1 t1 a1 y1 b1 l1 c1 ys e1 E2 (mt_ hE1 hE2)
   ·have g3:(1)<=n/\n<=4:=by simp at g3;omega
    refine Lp_re [some 0,some 1,some 2,some 3,some 4] (ih e' 0 n E1 hE1 ?_) ⟨⟨Nat.zero_le _,Nat.zero_le _,fun j h=>absurd h (Nat.not_lt_zero _)⟩,rfl,(by repeat' first|exact True.intro|refine And.intro (Or.inl rfl) ?_),(by repeat' first|exact True.intro|exact rfl|exact Or.inl rfl|exact Nat.succ_pos _|refine And.intro ?_ ?_),(by show List.Nodup [0,1,2,3,4];decide),mr_⟩
    rw [uk0_o (fld_o hy g3)] at h
    rw [stp_0]
    exact fun k1 f1 t1 a1 y1 b1 l1 c1 ys e1 E2 hE2=>h k1 f1 t1 a1 y1 b1 l1 c1 ys e1 E2 (mt_ hE1 hE2)
  ·have g2:e2≠0:=by simpa using g2
   refine Lp_re [some 0,some 1,some 2,some 3,some 4] (ih e' e2 n E1 hE1 ?_) ⟨⟨Nat.zero_le _,Nat.zero_le _,fun j h=>absurd h (Nat.not_lt_zero _)⟩,rfl,(by repeat' first|exact True.intro|refine And.intro (Or.inl rfl) ?_),(by repeat' first|exact True.intro|exact rfl|exact Or.inl rfl|exact Nat.succ_pos _|refine And.intro ?_ ?_),(by show List.Nodup [0,1,2,3,4];decide),mr_⟩
   rw [uk0_e (fld_e hy g2) g2] at h
   rw [stp_e g2]
   exact fun k1 f1 t1 a1 y1 b1 l1 c1 ys e1 E2 hE2=>h k1 f1 t1 a1 y1 b1 l1 c1 ys e1 E2 (mt_ hE1 hE2)
theorem lp23_0 (hB:Bs E b l c zs) (hl:l<=100000) (hE0:Mem.le E0 E) (h:∀ (k1 f1 t1 a1 y1:Int) (b1:Option Addr) (l1 c1:Nat) (ys:List Int) (e1:Int) (E':Mem),Mem.le E E'->Hyp (stp er (uk0 zs p)=([k1,f1,t1,a1,y1],ys,e1))->Bs E' b1 l1 c1 ys->K (.tup [.agg [I k1,I f1,I t1,I a1,I y1,L b1 l1 c1],I e1]) E'):
  Lp WG 6 Try.f30 [1,1,1,1,0,1,0] 0 (pubK E0 K) (sh23 b l c p er 0 0 0 0 0 0 E):=
 Lp_ind okWG (fun _:Unit=>sh23 b l c p er 0 0 0 0 0 0 E) (fun _=>0) (fun _ _=>rnd23_0 hB hl hE0 h (fun p' e' v E1 hE1 h1=>lp23_1 (hB.mono hE1) hl (mt_ hE0 hE1) h1)) ()
theorem s23 {b1:Option Addr} {l2:Nat} {c3:Nat} (h0:Bs E b1 l2 c3 zs) (h1:l2<=100000) (h:∀ (k1 f1 t1 a1 y1:Int) (b1:Option Addr) (l1 c1:Nat) (ys:List Int) (e1:Int) (E':Mem),Mem.le E E'->Hyp (uk0 zs 0=([k1,f1,t1,a1,y1],ys,e1))->Bs E' b1 l1 c1 ys->K (.tup [.agg [I k1,I f1,I t1,I a1,I y1,L b1 l1 c1],I e1]) E'):
  Ent WG 6 Try.f30 [L b1 l2 c3] E K:=by
 refine sm_ (?_:Mem.le E E/\Lp WG 6 Try.f30 [1,1,1,1,0,1,0] 0 (pubK E K) { fr:=some (L b1 l2 c3)::oc 0 0::oc 1 0::oI 0::oc 2 0::oc 3 0::some (SV.clo 60 [] [SV.loc 3 0,SV.loc 0 0,SV.loc 2 0])::oc 4 0::none::none::none::none::none::some (SV.clo 60 [] [SV.loc 3 0,SV.loc 0 0,SV.loc 2 0])::some (SV.agg [I 1,I 4,I 0,I 59,I (-1),I 59,I 0,I 1000000000,I 0,I 2000000])::oI 0::no32 (no8 (no2 (none::[]))),bx:=[(⟨35,.lst [L b1 l2 c3],1,true⟩:Box),⟨69,.lst [I 0,I 0,I 0,I 0,I 0,L none 0 0],6,true⟩,⟨3,.lst [I 0],1,true⟩,⟨43,.lst [I 0],1,true⟩,⟨114,.lst [I 0,I 0,I 0,I 0,I 0],5,true⟩,⟨117,.lst [I 1,I 4,I 0,I 59,I (-1),I 59,I 0,I 1000000000,I 0,I 2000000],10,true⟩],E:=E:St })
 delta no2 no8 no32
 refine ⟨mr_,?_⟩
 exact Lp_re [some 0,some 1,some 2,some 3,some 4] (lp23_0 h0 h1 mr_ (by rw [stp_0];exact h)) ⟨⟨Nat.zero_le _,Nat.zero_le _,fun j h=>absurd h (Nat.not_lt_zero _)⟩,rfl,(by repeat' first|exact True.intro|refine And.intro (Or.inl rfl) ?_),(by repeat' first|exact True.intro|exact rfl|exact Or.inl rfl|exact Nat.succ_pos _|refine And.intro ?_ ?_),(by show List.Nodup [0,1,2,3,4];decide),mr_⟩
theorem rdBAt {L pre xs ts:List Int} (hL:L=pre++dig (zig xs.length)++xs++ts) (hp:p=pre.length) (h:xs.length<=4000):rdB L p=(xs,p+((dig (zig xs.length)).length:Int)+xs.length,0):=by
 have h1:=rdAt (L:=L) (pre:=pre) (ts:=xs++ts) (n:=xs.length) (p:=p) (by rw [hL];simp) hp ⟨by omega,by omega⟩
 have hlen:(L.length:Int)=pre.length+(dig (zig xs.length)).length+xs.length+ts.length:=by rw [hL];simp only [List.length_append];omega
 rw [rdB_o h1 (by omega) (by omega)]
 have e:(p+((dig (zig xs.length)).length:Int)).toNat=(pre++dig (zig xs.length)).length:=by rw [List.length_append];omega
 rw [e,hL,List.append_assoc (pre++dig (zig xs.length)),List.drop_left,Int.toNat_natCast,List.take_left]
def pkL (k f t a y:Int) (zs:List Int):List Int:=dig (zig k)++dig (zig f)++dig (zig t)++dig (zig a)++dig (zig y)++dig (zig zs.length)++zs
theorem uk_run {ts:List Int} (h:okF k f t a y) (hz:zs.length<=4000):uk0 (pkL k f t a y zs++ts) 0=uk5 (pkL k f t a y zs++ts) (0+((dig (zig k)).length:Int)+((dig (zig f)).length:Int)+((dig (zig t)).length:Int)+((dig (zig a)).length:Int)+((dig (zig y)).length:Int)) k f t a y/\rdB (pkL k f t a y zs++ts) (0+((dig (zig k)).length:Int)+((dig (zig f)).length:Int)+((dig (zig t)).length:Int)+((dig (zig a)).length:Int)+((dig (zig y)).length:Int))=(zs,((pkL k f t a y zs).length:Int),0):=by
 unfold okF at h
 obtain ⟨h1,h2,h3,h4,h5⟩:=h
 have k0:okN k:=⟨by omega,by omega⟩
 have k1:okN f:=⟨by omega,by omega⟩
 have k2:okN t:=⟨by omega,by omega⟩
 have k3:okN a:=⟨by omega,by omega⟩
 have k4:okN y:=⟨by omega,by omega⟩
 have r0:=rdAt (L:=pkL k f t a y zs++ts) (pre:=[]) (ts:=(dig (zig f)++dig (zig t)++dig (zig a)++dig (zig y)++dig (zig zs.length)++zs++ts)) (n:=k) (p:=0) (by unfold pkL;simp) (by first|(simp;done)|(simp only [List.length_append];omega)|(simp;omega)) k0
 have r1:=rdAt (L:=pkL k f t a y zs++ts) (pre:=dig (zig k)) (ts:=(dig (zig t)++dig (zig a)++dig (zig y)++dig (zig zs.length)++zs++ts)) (n:=f) (p:=0+((dig (zig k)).length:Int)) (by unfold pkL;simp) (by first|(simp;done)|(simp only [List.length_append];omega)|(simp;omega)) k1
 have r2:=rdAt (L:=pkL k f t a y zs++ts) (pre:=dig (zig k)++dig (zig f)) (ts:=(dig (zig a)++dig (zig y)++dig (zig zs.length)++zs++ts)) (n:=t) (p:=0+((dig (zig k)).length:Int)+((dig (zig f)).length:Int)) (by unfold pkL;simp) (by first|(simp;done)|(simp only [List.length_append];omega)|(simp;omega)) k2
 have r3:=rdAt (L:=pkL k f t a y zs++ts) (pre:=dig (zig k)++dig (zig f)++dig (zig t)) (ts:=(dig (zig y)++dig (zig zs.length)++zs++ts)) (n:=a) (p:=0+((dig (zig k)).length:Int)+((dig (zig f)).length:Int)+((dig (zig t)).length:Int)) (by unfold pkL;simp) (by first|(simp;done)|(simp only [List.length_append];omega)|(simp;omega)) k3
 have r4:=rdAt (L:=pkL k f t a y zs++ts) (pre:=dig (zig k)++dig (zig f)++dig (zig t)++dig (zig a)) (ts:=(dig (zig zs.length)++zs++ts)) (n:=y) (p:=0+((dig (zig k)).length:Int)+((dig (zig f)).length:Int)+((dig (zig t)).length:Int)+((dig (zig a)).length:Int)) (by unfold pkL;simp) (by first|(simp;done)|(simp only [List.length_append];omega)|(simp;omega)) k4
 refine ⟨?_,?_⟩
 ·rw [uk0_o (fld_o r0 h1),uk1_o (fld_o r1 h2),uk2_o (fld_o r2 h3),uk3_o (fld_o r3 h4),uk4_o (fld_o r4 h5)]
 ·rw [rdBAt (L:=pkL k f t a y zs++ts) (pre:=dig (zig k)++dig (zig f)++dig (zig t)++dig (zig a)++dig (zig y)) (xs:=zs) (ts:=ts) (by unfold pkL;simp) (by simp only [List.length_append];omega) hz]
  congr 2
  unfold pkL;simp only [List.length_append];omega
theorem uk_pk (h:okF k f t a y) (hz:zs.length<=4000):uk0 (pkL k f t a y zs) 0=([k,f,t,a,y],zs,0):=by
 have:=uk_run (ts:=[]) h hz
 rw [List.append_nil] at this
 rw [this.1,uk5_o this.2 (by omega)]
theorem pk_inv (h:pk k f t a y zs=(ys,0)):okF k f t a y/\zs.length<=4000/\ys=pkL k f t a y zs:=by
 unfold pk at h
 split at h
 ·rename_i q
  obtain ⟨rfl,_⟩:=Prod.mk.inj h
  exact ⟨q.1,q.2,rfl⟩
 ·simp at h
theorem pkL_len (hz:zs.length<=6000):6<=(pkL k f t a y zs).length/\(pkL k f t a y zs).length<=zs.length+60:=by
 have h1:=dig_len (zig k);have h2:=dig_len (zig f);have h3:=dig_len (zig t);have h4:=dig_len (zig a);have h5:=dig_len (zig y);have h6:=dig_len (zig zs.length)
 unfold pkL
 simp only [List.length_append];omega
structure PkS (k f t a y:Int) (zs ys:List Int) (e:Int):Prop where
 eq:pk k f t a y zs=(ys,e)
structure UkS (zs:List Int) (k f t a y:Int) (ys:List Int) (e:Int):Prop where
 eq:uk0 zs 0=([k,f,t,a,y],ys,e)
noncomputable def tabHg:FuncId->List SV->Mem->(SV->Mem->Prop)->Prop:=fun f args E K=>match f with
 | 29=>d1 args fun x0=>dC x0 fun l=>d6 l fun y0 y1 y2 y3 y4 y5=>dI y0 fun k=>dI y1 fun f=>dI y2 fun t=>dI y3 fun a=>dI y4 fun y=>dS y5 fun b n c=>∃ zs,(Bs E b n c zs/\n<=100000)/\∀ (b':Option Addr) (l' c':Nat) (ys:List Int) (e:Int) (E':Mem),Mem.le E E'->PkS k f t a y zs ys e->Bs E' b' l' c' ys->K (.tup [L b' l' c',I e]) E'
 | 30=>d1 args fun x0=>dS x0 fun b l c=>∃ zs,(Bs E b l c zs/\l<=100000)/\∀ (k f t a y:Int) (b1:Option Addr) (l1 c1:Nat) (ys:List Int) (e:Int) (E':Mem),Mem.le E E'->UkS zs k f t a y ys e->Bs E' b1 l1 c1 ys->K (.tup [.agg [I k,I f,I t,I a,I y,L b1 l1 c1],I e]) E'
 | f=>tabHf f args E K
theorem tabHg_ok:TabOK Try.prog tabHg:=by
 intro f args E K h
 unfold tabHg at h
 split at h
 ·obtain ⟨x0,rfl,h⟩:=d1_elim h
  replace h:=dC_elim h
  obtain ⟨l,hl,h⟩:=h
  obtain ⟨y0,y1,y2,y3,y4,y5,rfl,h⟩:=d6_elim h
  obtain ⟨k,rfl,h⟩:=dI_elim h
  obtain ⟨f,rfl,h⟩:=dI_elim h
  obtain ⟨t,rfl,h⟩:=dI_elim h
  obtain ⟨a,rfl,h⟩:=dI_elim h
  obtain ⟨y,rfl,h⟩:=dI_elim h
  obtain ⟨b,n,c,rfl,zs,⟨hB,hn⟩,hk⟩:=dS_elim h
  exact TabSem.congr (valL_cons (asCells_val hl) rfl) (esm okWE Try.func29 rfl (s21 hB hn fun b' l' c' ys e E' hE hq hb=>hk b' l' c' ys e E' hE ⟨hq⟩ hb))
 ·obtain ⟨x0,rfl,h⟩:=d1_elim h
  obtain ⟨b,n,c,rfl,zs,⟨hB,hn⟩,hk⟩:=dS_elim h
  exact esm okWG Try.func30 rfl (s23 hB hn fun k f t a y b1 l1 c1 ys e E' hE hq hb=>hk k f t a y b1 l1 c1 ys e E' hE ⟨hq⟩ hb)
 ·exact tabHf_ok _ _ _ _ h
end Go.Proofs.Ytnjmojacdkjfoaa.BeaconOwn
