/- The symbolic evaluator; generic. Conditions: none. -/
import Derived.Test.YtnjmojacdkjfoaaSyR
namespace Go.Sx
open Go.RowKit (Below)
variable {e T:TypeId} {n:Nat} {ρ:Env} {s:SV} {o:Oper}
section
variable {ro:Option Nat} {Ω:Option Rc} {P:Program} {ak:cK} {S:St} {a:Act} {w w0:World} {mu:Fm} {ρ:Env} {K:KT} {next:Act->World->Prop} {Q:Exit->Act->World->Prop}
theorem D9 {zs:List SV} (h:vR P e n=some zs):∃ i z,P.info? e=some i/\i.zero=some z/\z.cells.size=i.size/\
  SV.bF ρ zs=some ((Array.range (n*i.size)).map (z.cells[· % z.cells.size]!)).toList:=by
 unfold vR at h;split at h;case h_2=>cases h
 rename_i i hi;split at h;case h_2=>cases h
 rename_i z hz;split at h;case isFalse=>cases h
 rename_i hc;obtain ⟨h1,h2⟩:=hc;simp only [Option.some.injEq] at h;subst h;have hd:=iZ (ρ:=ρ) h1 (v:=z) rfl;have hl:=bN hd;refine ⟨i,z,hi,hz,by rw [← Array.length_toList,hl,h2],?_⟩;have hsz:z.cells.size=i.size:=by rw [← Array.length_toList,hl,h2]
 have :∀ n,SV.bF ρ (List.replicate n (cG (.raw z))).flatten=some (List.replicate n z.cells.toList).flatten:=by
  intro n
  induction n with
  | zero=>simp [SV.bF]
  | succ n ih=>simp only [List.replicate_succ,List.flatten_cons];exact dQ hd ih
 rw [this n];congr 1;apply List.ext_getElem?;intro k;rw [← hsz];clear this hl h2 hsz hz hi h1 hd;generalize z.cells=c;have key:∀ n k:Nat,(List.replicate n c.toList).flatten[k]? =if k<n*c.size then some (c[k % c.size]!) else none:=by
  intro n
  induction n with
  | zero=>intro k;simp
  | succ n ih=>
   intro k;simp only [List.replicate_succ,List.flatten_cons];by_cases hk:k<c.size
   ·rw [List.getElem?_append_left (by simpa using hk),if_pos (by rw [Nat.add_mul];omega),Nat.mod_eq_of_lt hk];simp [hk,getElem!_pos]
   ·rw [List.getElem?_append_right (by simpa using Nat.le_of_not_lt hk),ih];simp only [Array.length_toList];have h1:(k-c.size<n*c.size)↔(k<(n+1)*c.size):=by rw [Nat.add_mul];omega
    simp only [h1];have h2:(k-c.size) % c.size=k % c.size:=by have:=Nat.mod_eq_sub_mod (Nat.le_of_not_lt hk);omega
    rw [h2]
 rw [key n k];simp only [Array.toList_map,Array.toList_range,List.getElem?_map];by_cases hk:k<n*c.size
 ·simp [hk]
 ·simp [hk]
theorem wo {m:Nat} {zs cs:List SV} {ss:List (Nat×SV)} {ps:Array (Nat×Value)} (w:World) (hu:P.underlying T=some (.slice e)) (hm:eJ P e=some m) (hzs:vR P e n=some zs)
  (hle:n*m<=16777216) (hp:lS ρ ss ps.toList) (hcs:pS (λk=>some (k*m,m)) zs ss=some cs):
  ∃ ws,SV.bF ρ cs=some ws/\(Instr.buildSlice T n ps).run P w= .ok (.slice (some ⟨w.heap.size,0,none⟩) n n) (w.alloc (.cells ws.toArray e)):=by
 obtain ⟨i,z,hi,hz,hsz,hzd⟩:=D9 (ρ:=ρ) hzs;have hmi:m=i.size:=by simp only [eJ,hi,Option.map_some,Option.some.injEq] at hm;exact hm.symm
 subst hmi;obtain ⟨ws,h1,h2⟩:=nM hp hzd hcs;refine ⟨ws,h1,?_⟩;simp only [Array.toArray_toList] at h2;unfold Instr.buildSlice;simp only [Sem.run_bind,run_underlying hu,Result.andThen_ok,bY hi];rw [if_neg (show ¬ n*i.size>2 ^ 24 by omega)];by_cases h0:n*i.size=0
 ·rw [if_pos h0];have hr:Array.map (λx=>(#[]:Array Value)[x % (#[]:Array Value).size]!) (Array.range (n*i.size))=Array.map (λx=>z.cells[x % z.cells.size]!) (Array.range (n*i.size)):=by simp [h0]
  simp only [Sem.run_bind,Sem.run_pure,Result.andThen_ok,hr,h2,newRow,run_newObj];rfl
 ·rw [if_neg h0];simp only [Sem.run_bind,jV hi hz,Result.andThen_ok,Sem.run_pure,h2,newRow,run_newObj];rfl
theorem BM {name:String} {g:FuncId} (h:mR P T name=some g) (x:Value) (d:Nat) (w:World):(method (d+1) T x name).run P w= .ok (g,x) w:=by
 unfold mR at h;split at h;case h_2=>cases h
 rename_i i hi;split at h;case h_2=>cases h
 rename_i m hm;have hp:∀ e,P.underlying T=some (.pointer e)->e=e:=λ_ _=>rfl;split at h
 ·rename_i f e ym hf hu;simp only [Option.some.injEq] at h;subst h;unfold method;simp only [Sem.run_bind,jt hi,Result.andThen_ok,hm,ym,follow,Sem.run_pure,hf];unfold receiverAt;simp only [Sem.run_bind,run_underlying hu,Result.andThen_ok,Place.get,Sem.run_pure]
 ·cases h
 ·rename_i f u hne ym hf hu;simp only [Option.some.injEq] at h;subst h;unfold method;simp only [Sem.run_bind,jt hi,Result.andThen_ok,hm,ym,follow,Sem.run_pure,hf];unfold receiverAt;simp only [Sem.run_bind,run_underlying hu,Result.andThen_ok]
  cases u<;>first|(simp only [Place.get,Sem.run_pure,Result.andThen_ok];done)|skip
 ·cases h
theorem CX {n:String} {v:Value} (h:(SV.vm n (.cr T s)).den ρ=some v):∃ u,v= .func (.method n) #[.iface T u] #[]:=by simp only [SV.den,Option.map_eq_some_iff] at h;obtain ⟨_,⟨u,_,rfl⟩,rfl⟩:=h;exact ⟨u,rfl⟩
theorem F3 {n:String} {f:Operand->Value} {first jL:Array Operand} (h:SV.bF ρ [s]=some (first.toList.map f)) (hl:jL.toList=[]):(SV.vm n s).den ρ=some (.func (.method n) (first.map f) (jL.map f)):=by
 simp only [SV.bF] at h;have hc:jL= #[]:=by rw [← Array.toList_inj];exact hl
 subst hc;split at h
 ·rename_i v vs h1 h2
  cases h2;simp only [SV.den,h1,Option.map_some];simp only [Option.some.injEq] at h;have :first.map f= #[v]:=by rw [← Array.toList_inj,Array.toList_map,← h]
  rw [this];simp
 ·cases h
theorem sF {name:String} {g:FuncId} (h:mR P T name=some g) (hu:P.underlying T=some (.pointer e)) (x:Value) (d:Nat) (hd:0<d) (w:World):(nilAhead d T x name).run P w= .ok (some false) w:=by
 unfold mR at h;split at h;case h_2=>cases h
 rename_i i hi;split at h;case h_2=>cases h
 rename_i m hm;obtain ⟨d,rfl⟩:∃ k,d=k+1:=⟨d-1,by omega⟩;split at h
 ·rename_i f e' ym hf U7;unfold nilAhead;simp only [Sem.run_bind,jt hi,Result.andThen_ok,hm,ym,followBlind,Sem.run_pure,hf]
 ·cases h
 ·rename_i f u hne ym hf U7;rw [hu] at U7
  cases U7;exact absurd rfl (hne _)
 ·cases h
theorem F4 {f:FuncId} {args:Array Value} {R:Ending->World->Prop} (h:Calls P f args w R):CallsIn (fW ro) n P f args w R:=by
 cases ro with
 | none=>exact callsIn_wide.2 h
 | some l=>exact CallsIn.inRound l (callsIn_wide.2 h)
theorem Nl {l:Nat} {f:FuncId} {tmps:Array Value} {assign body:Code} {R:Ending->World->Prop} (h:RoundIn Fence.wide n P l f tmps assign body w R):RoundIn (fW ro) n P l f tmps assign body w R:=h
set_option maxHeartbeats 1000000 in
theorem yn (dP:ja Ω P ak) (QC:UW Ω w0 mu ρ) (hR:Rel w0 mu S.bx S.E ρ w) (hF:cV ρ S.fr a.tmps) (h:kg P ak o.op S K) (hk:vS o.op S o.dst a ρ w0 mu K next):
  o.uponIn (fW ro) 0 P a next Q ((execOp a.eval o).run P w):=by
 obtain ⟨dst,op,type,pos,after,guard⟩:=o;have done:∀ {s:SV} {x:Value},s.den ρ=some x->K s S.bx S.E->next (a.put dst x) w:=λ{s x} h1 h2=>hk _ _ _ _ ρ w (List.prefix_refl _) h1 hR (λ_=>⟨List.prefix_refl _,Mem.le_refl _⟩) h2
 cases op with
 | move x=>
  simp only [kg] at h;split at h
  ·rename_i s hs;exact done (aO hF hs) h
  ·exact h.elim
 | assign x=>
  simp only [kg] at h;split at h
  ·rename_i s hs;exact done (aO hF hs) h
  ·exact h.elim
 | pick c x y=>
  simp only [kg] at h;have hb:∀ {t:Bool},jh S c=some (.raw (.bool t))->a.eval c= .bool t:=λhc=>by have:=aO hF hc;simpa [SV.den] using this.symm
  split at h
  ·rename_i t b1 b2 hc h1 h2;have e1:a.eval x= .bool b1:=by have:=aO hF h1;simpa [SV.den] using this.symm
   have e2:a.eval y= .bool b2:=by have:=aO hF h2;simpa [SV.den] using this.symm
   have :(execOp a.eval ⟨dst,.pick c x y,type,pos,after,guard⟩).run P w= .ok (.value (.bool (cond t b1 b2))) w:=by cases t<;>simp [execOp,hb hc,asBool,e1,e2]
   rw [this];exact done (s:=.raw (.bool (cond t b1 b2))) rfl h
  ·rename_i t s1 s2 _ hc h1 h2
   cases t with
   | true=>
    have :(execOp a.eval ⟨dst,.pick c x y,type,pos,after,guard⟩).run P w= .ok (.value (a.eval x)) w:=by simp [execOp,hb hc,asBool]
    rw [this];exact done (aO hF h1) h
   | false=>
    have :(execOp a.eval ⟨dst,.pick c x y,type,pos,after,guard⟩).run P w= .ok (.value (a.eval y)) w:=by simp [execOp,hb hc,asBool]
    rw [this];exact done (aO hF h2) h
  ·rename_i s1 hc h1 h2;have :(execOp a.eval ⟨dst,.pick c x y,type,pos,after,guard⟩).run P w= .ok (.value (a.eval x)) w:=by simp [execOp,hb hc,asBool]
   rw [this];exact done (aO hF h1) h
  ·rename_i s1 hc h1 h2;have :(execOp a.eval ⟨dst,.pick c x y,type,pos,after,guard⟩).run P w= .ok (.value (a.eval y)) w:=by simp [execOp,hb hc,asBool]
   rw [this];exact done (aO hF h2) h
  ·exact h.elim
 | alloc T=>
  simp only [kg] at h;split at h;case h_2=>exact h.elim
  rename_i i hi;split at h;case h_2=>exact h.elim
  rename_i z hz;split at h;case isFalse=>exact h.elim
  rename_i hone;refine qX hR hk hone rfl ?_ h;show Sem.run P (do pure (Next.value (← Instr.alloc T true (.tuple #[])))) w=_
  simp only [Instr.alloc,Sem.run_bind,jV hi hz,Result.andThen_ok,pU,Sem.run_pure]
 | box T x=>
  simp only [kg] at h;split at h;case h_2=>exact h.elim
  rename_i s hs;split at h;case isFalse=>exact h.elim
  rename_i hone;refine qX hR hk hone (aO hF hs) ?_ h;show Sem.run P (do pure (Next.value (← Instr.box T (a.eval x)))) w=_
  simp only [Instr.box,Sem.run_bind,Result.andThen_ok,pU,Sem.run_pure]
 | build T ps=>
  simp only [kg] at h;have hp:∀ {ss},parts S ps.toList=some ss->lS ρ ss (ps.map λ(i,x)=>(i,a.eval x)).toList:=λhs=>by simpa using qD hF hs
  split at h
  ·rename_i i fs ss hi hu hs;split at h;case h_2=>exact h.elim
   rename_i z places hz Nd;split at h;case h_2=>exact h.elim
   rename_i zs hzs;split at h;case h_2=>exact h.elim
   rename_i cs hcs;obtain ⟨F0,rfl⟩:=mS hzs;obtain ⟨ws,h1,h2⟩:=nM (hp hs) (bU (ρ:=ρ) z.cells.toList) hcs;refine bV (s:=Instr.build T (ps.map λ(i,x)=>(i,a.eval x))) rfl (run_build w T _ ws.toArray ?_) (done (s:=.agg cs) (by simp only [SV.den,h1,Option.map_some]) h);simp only [Program.built,hi,hu,hz,Nd];simpa using h2
  ·rename_i i n e ss hi hu hs;split at h;case h_2=>exact h.elim
   rename_i z ie hz U9;split at h;case h_2=>exact h.elim
   rename_i zs hzs;split at h;case h_2=>exact h.elim
   rename_i cs hcs;obtain ⟨F0,rfl⟩:=mS hzs;obtain ⟨ws,h1,h2⟩:=nM (hp hs) (bU (ρ:=ρ) z.cells.toList) hcs;refine bV (s:=Instr.build T (ps.map λ(i,x)=>(i,a.eval x))) rfl (run_build w T _ ws.toArray ?_) (done (s:=.agg cs) (by simp only [SV.den,h1,Option.map_some]) h);simp only [Program.built,hi,hu,hz,U9];simpa using h2
  ·exact h.elim
 | buildSlice T n ps=>
  simp only [kg] at h;split at h;case h_2=>exact h.elim
  rename_i e ss hu hs;split at h;case h_2=>exact h.elim
  rename_i m zs hm hzs;split at h;case isFalse=>exact h.elim
  rename_i hle;split at h;case h_2=>exact h.elim
  rename_i cs hcs;have hp:lS ρ ss (ps.map λ(i,x)=>(i,a.eval x)).toList:=by have:=qD hF hs;rw [Array.toList_map];exact this
  obtain ⟨ws,h1,h2⟩:=wo (P:=P) (ρ:=ρ) w hu hm hzs hle hp hcs;have PZ:=hR.alloc e (.ae cs) ws [] cs.length h1 (by simpa using bN h1);simp only [List.append_nil] at PZ;refine bV (s:=Instr.buildSlice T n (ps.map λ(i,x)=>(i,a.eval x))) rfl h2 (hk (.bH S.bx.length 0 n n) _ _ _ _ _ (List.prefix_append _ _) ?_ PZ (λ_=>⟨List.prefix_append _ _,Mem.le_refl _⟩) h);simp only [SV.den,eu,← hR.len,List.getElem?_append_right (Nat.le_refl _),Nat.sub_self,List.getElem?_cons_zero];rfl
 | load T x=>
  simp only [kg] at h;split at h
  ·rename_i b off hs;split at h;case h_2=>exact h.elim
   rename_i y hy;split at h
   ·rename_i cells hc;split at h;case h_2=>exact h.elim
    rename_i r hr;obtain ⟨v,h1,h2⟩:=lT (P:=P) hR hy (r:=r) (by simpa [aR.cells,hc,Row.cells] using hr) (by simpa [SV.den] using aO hF hs);exact bV (s:=Instr.loadAt T (a.eval x)) rfl h2 (done h1 h)
   ·rename_i us hc;obtain ⟨r,hl,h⟩:=lJ h;obtain ⟨v,h1,h2⟩:=lT (P:=P) hR hy (r:=r) (by simpa [aR.cells,hc,Row.cells,gA] using hl) (by simpa [SV.den] using aO hF hs);exact bV (s:=Instr.loadAt T (a.eval x)) rfl h2 (done h1 h)
  ·rename_i v off hs;obtain ⟨r,hl,h⟩:=lJ h;obtain ⟨v,h1,h2⟩:=pV (P:=P) hR hl (by simpa [SV.den] using aO hF hs);exact bV (s:=Instr.loadAt T (a.eval x)) rfl h2 (done h1 h)
  ·exact h.elim
 | store T x y=>
  simp only [kg] at h;split at h;case h_2=>exact h.elim
  rename_i b off s hx hy;obtain ⟨w',bA,h1,h2,h⟩:=Aq hR h (aO hF hy) (by simpa [SV.den] using aO hF hx);have :(execOp a.eval ⟨dst,.store T x y,type,pos,after,guard⟩).run P w= .ok .skip w':=by
   show Sem.run P (do Instr.storeAt T (a.eval x) (a.eval y);pure Next.skip) w=_
   simp only [Sem.run_bind,h1,Result.andThen_ok,Sem.run_pure]
  rw [this];exact hk _ _ _ _ ρ w' (List.prefix_refl _) rfl h2 (λhg=>by simp [jT] at hg) h
 | nilCheck x=>
  simp only [kg] at h;split at h
  ·rename_i b off hs;have hd:=aO hF hs;simp only [SV.den] at hd;obtain ⟨c,hc,e⟩:=eK hd;have :(execOp a.eval ⟨dst,.nilCheck x,type,pos,after,guard⟩).run P w= .ok (.value (a.eval x)) w:=by
    simp [execOp,e]
   rw [this];exact done (aO hF hs) h
  ·rename_i v off hs;have hd:=aO hF hs;simp only [SV.den] at hd;obtain ⟨c,_,_,_,e,_⟩:=iE hd;have :(execOp a.eval ⟨dst,.nilCheck x,type,pos,after,guard⟩).run P w= .ok (.value (a.eval x)) w:=by
    simp [execOp,e]
   rw [this];exact done (aO hF hs) h
  ·rename_i f m l hs;have hd:=aO hF hs;have e:∃ us vs,a.eval x= .func (.func f) us vs:=by
    simp only [SV.den] at hd;split at hd
    ·simp only [Option.some.injEq] at hd;exact ⟨_,_,hd.symm⟩
    ·cases hd
   obtain ⟨us,vs,e⟩:=e;have :(execOp a.eval ⟨dst,.nilCheck x,type,pos,after,guard⟩).run P w= .ok (.value (a.eval x)) w:=by simp [execOp,e]
   rw [this];exact done (aO hF hs) h
  ·rename_i t v hs;have hd:=aO hF hs;simp only [SV.den,Option.map_eq_some_iff] at hd;obtain ⟨vs,_,e⟩:=hd;have :(execOp a.eval ⟨dst,.nilCheck x,type,pos,after,guard⟩).run P w= .ok (.value (a.eval x)) w:=by
    simp [execOp,← e]
   rw [this];exact done (aO hF hs) h
  ·rename_i n T v hs;split at h;case h_2=>exact h.elim
   rename_i g pt hm hu;have hd:=aO hF hs;obtain ⟨u,e⟩:=CX hd;have :(execOp a.eval ⟨dst,.nilCheck x,type,pos,after,guard⟩).run P w= .ok (.value (a.eval x)) w:=by have:=sF hm hu u (P.types.size+Made.depth) (by unfold Made.depth;omega) w;simp [execOp,e,this]
   rw [this];exact done (aO hF hs) h
  ·exact h.elim
 | binOp op T x y yt=>
  simp only [kg] at h;split at h;case h_2=>exact h.elim
  rename_i s t hs ht;have es:=aO hF hs;have et:=aO hF ht;have hx:execOp a.eval ⟨dst,.binOp op T x y yt,type,pos,after,guard⟩=(do pure (Next.value (← (do eqGuard op T x y (a.eval x) (a.eval y);binOp op T (a.eval x) (a.eval y))))):=rfl
  have lB:∀ {r},nL s t=some r->∀ {e},P.underlying T=some (.pointer e)->r=false/\∀ w,(eqGuard op T x y (a.eval x) (a.eval y)).run P w= .ok () w/\(Op.equal T (a.eval x) (a.eval y)).run P w= .ok false w:=by
   intro r hr e he;obtain ⟨h1,h2⟩:=tK hr es et;refine ⟨h1,λw=>?_⟩;rcases h2 with ⟨b,e1,e2⟩|⟨b,e1,e2⟩<;>rw [e1,e2]
   ·exact ⟨by cases op<;>rfl,(mT he 9999 b w).1⟩
   ·exact ⟨by cases op<;>rfl,(mT he 9999 b w).2⟩
  split at h
  ·rename_i r e hr he;obtain ⟨rfl,hw⟩:=lB hr he;refine bV hx ?_ (done (s:=.raw (.bool false)) rfl h);have hb:binOp .eql T (a.eval x) (a.eval y)=(do pure (.bool (← Op.equal T (a.eval x) (a.eval y)))):=by
    obtain ⟨_,h2⟩:=tK hr es et;rcases h2 with ⟨b,e1,e2⟩|⟨b,e1,e2⟩<;>rw [e1,e2]<;>rfl
   simp only [Sem.run_bind,(hw w).1,Result.andThen_ok,hb,(hw w).2,Sem.run_pure]
  ·rename_i r e hr he;obtain ⟨rfl,hw⟩:=lB hr he;refine bV hx ?_ (done (s:=.raw (.bool true)) rfl h);have hb:binOp .neq T (a.eval x) (a.eval y)=(do pure (.bool (!(← Op.equal T (a.eval x) (a.eval y))))):=by
    obtain ⟨_,h2⟩:=tK hr es et;rcases h2 with ⟨b,e1,e2⟩|⟨b,e1,e2⟩<;>rw [e1,e2]<;>rfl
   simp only [Sem.run_bind,(hw w).1,Result.andThen_ok,hb,(hw w).2,Sem.run_pure,Bool.not_false]
  ·rename_i e hr he;obtain ⟨r,h,g1,_,g2,_⟩:=kF (P:=P) (ρ:=ρ) he h es et;refine bV hx ?_ (done (s:=.raw (.bool r)) rfl h);simp only [Sem.run_bind,g1,Result.andThen_ok,g2]
  ·rename_i e hr he;obtain ⟨r,h,_,g1,_,g2⟩:=kF (P:=P) (ρ:=ρ) he h es et;refine bV hx ?_ (done (s:=.raw (.bool !r)) rfl h);simp only [Sem.run_bind,g1,Result.andThen_ok,g2]
  ·rename_i e hr he;split at h;case isFalse=>exact h.elim
   rename_i hg;split at h;case h_2=>exact h.elim
   rename_i r hr;obtain ⟨g1,_,g2,_⟩:=jX (P:=P) (ρ:=ρ) he hg hr es et;refine bV hx ?_ (done (s:=.raw (.bool r)) rfl h);simp only [Sem.run_bind,g1,Result.andThen_ok,g2]
  ·rename_i e hr he;split at h;case isFalse=>exact h.elim
   rename_i hg;split at h;case h_2=>exact h.elim
   rename_i r hr;obtain ⟨_,g1,_,g2⟩:=jX (P:=P) (ρ:=ρ) he hg hr es et;refine bV hx ?_ (done (s:=.raw (.bool !r)) rfl h);simp only [Sem.run_bind,g1,Result.andThen_ok,g2]
  ·split at h;case h_2=>exact h.elim
   rename_i v u hv hu;have e1:=SV.gx ρ s hv;have e2:=SV.gx ρ t hu;rw [es] at e1;rw [et] at e2
   cases e1;cases e2;obtain ⟨_,rfl,h⟩:=yh h;exact iF hR hk hx h
 | unOp op T x=>
  simp only [kg] at h;split at h;case h_2=>exact h.elim
  rename_i v hs;have es:=aO hF hs;simp only [SV.den,Option.some.injEq] at es;subst es;exact iF hR hk rfl h
 | convert src d x=>
  simp only [kg] at h;split at h;case h_2=>exact h.elim
  rename_i s hs;split at h
  case h_2=>
   unfold JF at h;split at h;case h_2=>exact h.elim
   rename_i b off n cap hvn;split at h;case h_2=>exact h.elim
   rename_i e r tot hb;split at h;case h_2=>exact h.elim
   rename_i y ys hy;split at h;case isFalse=>exact h.elim
   rename_i wg;subst wg;split at h;case h_2=>exact h.elim
   rename_i e' he;split at h;case h_2=>exact h.elim
   rename_i hu8;have es:=aO hF hs;obtain ⟨c,C,hc,h1,h2⟩:=hR.Nf hb (by rw [hy];simp);simp only [SV.den] at es;rcases cN es with ⟨c',JJ,ev⟩|⟨JJ,_⟩;case inr=>rw [hc] at JJ;cases JJ
   rw [hc] at JJ
   cases JJ;have Nm:(c.add off).block=c.block:=by unfold Addr.add;split<;>rfl
   have hsh:w.shape? c.block=some (e,C.size):=by unfold World.shape?;rw [h1]
   have hrun:(convert src src (a.eval x)).run P w= .ok (a.eval x) (w.freeze ⟨c.block,C.size,none⟩ 1):=by rw [ev];simp [convert,run_underlying he,run_underlying hu8,markStringish,hsh,Nm]
   refine bV (s:=convert src src (a.eval x)) rfl hrun (hk _ _ _ _ ρ _ (List.prefix_refl _) ?_ h2 (λhg=>by simp [jT] at hg) h);simp only [SV.den];exact es
  rename_i v hv;have es:=aO hF hs;rw [SV.gx ρ s hv] at es;cases es;exact iF hR hk rfl h
 | makeInterface T x=>
  simp only [kg] at h;split at h
  ·exact h.elim
  ·rename_i s d hne hs hu;have es:=aO hF hs;refine bV (s:=Instr.makeInterface T (a.eval x)) (v:=.iface T (a.eval x)) (w':=w) rfl ?_ (done (s:=.cr T s) (by simp only [SV.den,es,Option.map_some]) h);unfold Instr.makeInterface;simp only [Sem.run_bind,run_underlying hu,Result.andThen_ok]
   cases d<;>first|rfl|exact (hne _ rfl).elim
  ·exact h.elim
 | makeFunc fn first jL=>
  cases fn with
  | func f=>
   simp only [kg] at h;split at h
   ·rename_i m l hm hl;have el:=jU hF hl;have em:=jU hF hm;refine bV (s:=Instr.makeFunc (.func f) (first.map a.eval) (jL.map a.eval)) (v:=.func (.func f) (first.map a.eval) (jL.map a.eval)) (w':=w) rfl (by simp [Instr.makeFunc]) (done (s:=.fM f m l) ?_ h)
    simp only [SV.den,el,em];congr 2<;>(apply Array.ext';simp)
   ·exact h.elim
  | method n=>
   simp only [kg] at h;split at h;case h_2=>exact h.elim
   rename_i T v hm hl;have em:=jU hF hm;refine bV (s:=Instr.makeFunc (.method n) (first.map a.eval) (jL.map a.eval)) (v:=.func (.method n) (first.map a.eval) (jL.map a.eval)) (w':=w) rfl (by simp [Instr.makeFunc]) (done (s:=.vm n (.cr T v)) (F3 em hl) h)
  | _=>exact h.elim
 | makeSlice T l c=>
  simp only [kg] at h;split at h;case h_2=>exact h.elim
  rename_i kl l' kc c' e hl hc hu;have el:=aO hF hl;have ec:=aO hF hc;simp only [SV.den,Option.some.injEq] at el ec;obtain ⟨v,w',s',bA,ρ',h1,h2,h3,h4,h5,h6⟩:=Av (P:=P) (kl:=kl) (kc:=kc) hu h hR;refine bV (s:=Instr.makeSlice T (a.eval l) (a.eval c)) rfl (by rw [← el,← ec];exact h1) (hk _ _ _ _ _ _ h2 h3 h4 (λ_=>⟨h5,Mem.le_refl _⟩) h6)
 | slice T x lo hi mx=>
  simp only [kg] at h;have hx:execOp a.eval ⟨dst,.slice T x lo hi mx,type,pos,after,guard⟩=(do pure (Next.value (← Instr.sliceAt T (a.eval x) (lo.map a.eval) (hi.map a.eval) (mx.map a.eval)))):=rfl
  split at h
  ·rename_i b off l hh m n e hs h1 h2 h3 hu;split at h;case h_2=>exact h.elim
   rename_i z hz;simp only [eJ,Option.map_eq_some_iff] at hz;obtain ⟨i,hi',rfl⟩:=hz;have es:=aO hF hs;simp only [SV.den] at es;obtain ⟨c,hc,e1⟩:=eK es;obtain ⟨hr,hK⟩:=eH (P:=P) hF h1 h2 h3 h false w;refine bV hx (v:=.slice (some (c.add (if toN m n=toN l 0 then off else off+toN l 0*i.size))) (toN hh n-toN l 0) (toN m n-toN l 0)) (w':=w) ?_ (done ?_ hK)
   ·unfold Instr.sliceAt;simp only [Sem.run_bind,run_underlying hu,Result.andThen_ok,e1,Instr.sureAddr,Sem.run_pure,hr,bY hi'];congr 3;split
    ·rfl
    ·rw [iQ (hR.spot hc)]
   ·simp only [SV.den,eu,hc]
  ·rename_i b off len cap l hh m e hs h1 h2 h3 hu;split at h;case h_2=>exact h.elim
   rename_i z hz;simp only [eJ,Option.map_eq_some_iff] at hz;obtain ⟨i,hi',rfl⟩:=hz;have es:=aO hF hs;simp only [SV.den] at es;obtain ⟨hr,hK⟩:=eH (P:=P) hF h1 h2 h3 h true w;rcases cN es with ⟨c,hc,e1⟩|⟨hc,rfl,rfl,rfl,e1⟩
   ·refine bV hx (v:=.slice (some (c.add (if toN m cap=toN l 0 then off else off+toN l 0*i.size))) (toN hh len-toN l 0) (toN m cap-toN l 0)) (w':=w) ?_ (done ?_ hK)
    ·unfold Instr.sliceAt Instr.slice;simp only [Sem.run_bind,run_underlying hu,Result.andThen_ok,e1,hr,bY hi',Sem.run_pure];congr 2;split
     ·rfl
     ·simp only [Option.map_some];rw [iQ (hR.spot hc)]
    ·simp only [SV.den,eu,hc]
   ·obtain ⟨_,g1,g2,g3,_⟩:=gI h;have z3:toN m 0=0:=by
     cases m with
     | none=>rfl
     | some j=>have:=g1 j rfl;simp only [toN];omega
    have z2:toN hh 0=0:=by
     cases hh with
     | none=>rfl
     | some j=>have:=g2 j rfl;rw [z3] at this;simp only [toN];omega
    have z1:toN l 0=0:=by
     cases l with
     | none=>rfl
     | some j=>have:=g3 j rfl;rw [z2] at this;simp only [toN];omega
    rw [z1,z2,z3] at hK hr;refine bV hx (v:=.slice none 0 0) (w':=w) ?_ (done ?_ hK)
    ·unfold Instr.sliceAt Instr.slice;simp only [Sem.run_bind,run_underlying hu,Result.andThen_ok,e1,hr,bY hi',Sem.run_pure];rfl
    ·simp only [SV.den,eu,hc];rfl
  ·rename_i base len cap l hh m e hs h1 h2 h3 hu;split at h;case h_2=>exact h.elim
   rename_i z hz;simp only [eJ,Option.map_eq_some_iff] at hz;obtain ⟨i,hi',rfl⟩:=hz;have es:=aO hF hs;simp only [SV.den,Option.some.injEq] at es;obtain ⟨hlc,h⟩:=dX h;obtain ⟨hr,hK⟩:=eH (P:=P) hF h1 h2 h3 h true w
   let v':Value:=.slice (if toN m cap=toN l 0 then base else base.map (·.add (toN l 0*i.size))) (toN hh len-toN l 0) (toN m cap-toN l 0)
   let E':Mem:=λv cs=>S.E v cs\/∃ jQ,S.E (.slice base len cap) jQ/\v=v'/\cs=(jQ.drop (toN l 0*i.size)).take ((toN hh len-toN l 0)*i.size);have hE:=hK (if toN m cap=toN l 0 then base else base.map (·.add (toN l 0*i.size))) E' (λ_ _ g=>.inl g) (λcs g=>.inr ⟨cs,g,rfl,rfl⟩) (by split<;>simp)
   obtain ⟨_,g1,g2,g3,_⟩:=gI h;have hle:toN m cap=toN l 0->toN hh len-toN l 0=0:=by
    intro e0;have a1:toN hh len<=toN m cap\/hh=none:=by
     cases hh with
     | none=>exact .inr rfl
     | some j=>have:=g2 j rfl;left;simp only [toN] at *;omega
    rcases a1 with a1|rfl
    ·omega
    ·cases m with
     | none=>simp only [toN] at *;omega
     | some j=>have h0:=(gI h).1 rfl;cases h0
   have hrow:∀ jQ,S.E (.slice base len cap) jQ->dV w v' ((jQ.drop (toN l 0*i.size)).take ((toN hh len-toN l 0)*i.size)):=by
    intro jQ g;by_cases e0:toN m cap=toN l 0
    ·left;rw [hle e0];simp
    ·rcases hR.hold _ _ g with rfl|⟨c,len',cap',e2,hsp,hcell⟩
     ·left;simp
     ·cases e2;right;refine ⟨c.add (toN l 0*i.size),toN hh len-toN l 0,toN m cap-toN l 0,by simp only [v',if_neg e0,Option.map_some],by rw [add_eq hsp],λj x hj=>?_⟩;rw [add_eq hsp];simp only;have hj':j<(toN hh len-toN l 0)*i.size:=by
       rcases Nat.lt_or_ge j ((toN hh len-toN l 0)*i.size) with q|q
       ·exact q
       ·rw [List.getElem?_eq_none (by simp;omega)] at hj;cases hj
      rw [List.getElem?_take_of_lt hj',List.getElem?_drop] at hj;rw [Nat.add_assoc];exact hcell _ _ hj
   have iT:Rel w0 mu S.bx E' ρ w:=hR.D4 (λv cs g=>by
     rcases g with g|⟨jQ,g,rfl,rfl⟩
     ·exact hR.hold v cs g
     ·exact hrow jQ g) (λv cs g hne=>by
     rcases g with g|⟨jQ,g,rfl,rfl⟩
     ·exact .inl g
     ·right;intro j b c b1 b2 b3;have pK:jQ≠[]:=by rintro rfl;simp at hne
      have:=(hR.sep j b c b1 b2 b3).2.2 _ _ g pK;have e0:¬ toN m cap=toN l 0:=by intro e0;rw [hle e0] at hne;simp at hne
      rcases hR.hold _ _ g with rfl|⟨c',len',cap',e2,hsp,_⟩
      ·exact absurd rfl pK
      ·cases e2;simp only [v',if_neg e0,Option.map_some,pP] at this ⊢;rw [add_eq hsp];exact this) (λv cs g hne=>by
     rcases g with g|⟨jQ,g,rfl,rfl⟩
     ·exact hR.src _ _ g hne
     ·have pK:jQ≠[]:=by rintro rfl;simp at hne
      have e0:¬ toN m cap=toN l 0:=by intro e0;rw [hle e0] at hne;simp at hne
      have:=hR.src _ _ g pK;rcases hR.hold _ _ g with rfl|⟨c',len',cap',e2,hsp,_⟩
      ·exact absurd rfl pK
      ·cases e2;simp only [v',if_neg e0,Option.map_some,pP] at this ⊢;rw [add_eq hsp];exact this)
   refine bV hx (v:=v') (w':=w) ?_ (hk (.raw v') _ _ _ ρ w (List.prefix_refl _) rfl iT (λ_=>⟨List.prefix_refl _,λ_ _ g=>.inl g⟩) hE);unfold Instr.sliceAt Instr.slice;simp only [Sem.run_bind,run_underlying hu,Result.andThen_ok,← es,hr,bY hi',Sem.run_pure];rfl
  ·exact h.elim
 | fieldAddr T x f=>
  simp only [kg] at h;split at h;case h_2=>exact h.elim
  rename_i fs hu;split at h;case h_2=>exact h.elim
  rename_i xU hf;have key:∀ {n off:Nat} {c:Addr},eJ P xU.type=some n->n≠0->c.spot=none->a.eval x= .pointer (some (c.add off))->
    (Instr.fieldAt T (a.eval x) f).run P w= .ok (.pointer (some (c.add (off+xU.offset)))) w:=by
   intro n off c hn h0 hc e1;simp only [eJ,Option.map_eq_some_iff] at hn;obtain ⟨i,hi',rfl⟩:=hn;unfold Instr.fieldAt;simp only [Sem.run_bind,run_underlying hu,Result.andThen_ok,hf,e1,Instr.sureAddr,Sem.run_pure];unfold fieldPlace;simp only [Sem.run_bind,bY hi',Result.andThen_ok,if_neg h0,Sem.run_pure,iQ hc]
  split at h
  ·rename_i n b off hn hs;split at h;case isTrue=>exact h.elim
   rename_i h0;have es:=aO hF hs;simp only [SV.den] at es;obtain ⟨c,hc,e1⟩:=eK es;exact bV (s:=Instr.fieldAt T (a.eval x) f) rfl (key hn h0 (hR.spot hc) e1) (done (by simp only [SV.den,gS,hc]) h)
  ·rename_i n v off hn hs;split at h;case isTrue=>exact h.elim
   rename_i h0;have es:=aO hF hs;simp only [SV.den] at es;obtain ⟨c,len,cap,rfl,e1,hsp⟩:=iE es;exact bV (s:=Instr.fieldAt T (a.eval x) f) rfl (key hn h0 hsp e1) (done (by simp only [SV.den,pF,hsp,if_true]) h)
  ·exact h.elim
 | field T x f=>
  simp only [kg] at h;split at h;case h_2=>exact h.elim
  rename_i fs hu;split at h;case h_2=>exact h.elim
  rename_i xU s hf hs;split at h;case h_2=>exact h.elim
  rename_i cs hcs;split at h;case h_2=>exact h.elim
  rename_i r hr;obtain ⟨vs,e1,e2⟩:=gV hcs (aO hF hs);obtain ⟨v,e3,e4⟩:=kK (P:=P) (w:=w) hr e2;refine bV (s:=Instr.field T (a.eval x) f) rfl ?_ (done e3 h);unfold Instr.field;simp only [Sem.run_bind,run_underlying hu,Result.andThen_ok,hf,e1,asAgg,Sem.run_pure,e4]
 | extract x i=>
  simp only [kg] at h;split at h
  ·rename_i l hs;split at h;case h_2=>exact h.elim
   rename_i s hl;have es:=aO hF hs;simp only [SV.den,Option.map_eq_some_iff] at es;obtain ⟨vs,e1,e2⟩:=es;obtain ⟨v,e3,e4⟩:=kJ e1 hl;refine bV (s:=Instr.extract (a.eval x) i) (v:=v) (w':=w) rfl ?_ (done e4 h);rw [← e2];simp [Instr.extract,e3]
  ·rename_i vs hs;split at h;case h_2=>exact h.elim
   rename_i v hl;have es:=aO hF hs;simp only [SV.den,Option.some.injEq] at es;refine bV (s:=Instr.extract (a.eval x) i) (v:=v) (w':=w) rfl ?_ (done rfl h);rw [← es];have :vs[i]? =some v:=by simpa using hl
   simp [Instr.extract,this]
  ·exact h.elim
 | typeAssert x T U ok=>
  simp only [kg] at h;split at h;case h_2=>exact h.elim
  rename_i s hs;split at h;case h_2=>exact h.elim
  rename_i v hv;have es:=aO hF hs;rw [SV.gx ρ s hv] at es;cases es;exact iF hR hk rfl h
 | indexAddr T x i=>
  simp only [kg] at h;have hx:execOp a.eval ⟨dst,.indexAddr T x i,type,pos,after,guard⟩=(do pure (Next.value (← Instr.indexAt T (a.eval x) (a.eval i)))):=rfl
  split at h
  ·rename_i b off k n len e hs hi hu;split at h;case h_2=>exact h.elim
   rename_i z hz;obtain ⟨hn,h⟩:=dX h;simp only [eJ,Option.map_eq_some_iff] at hz;obtain ⟨inf,hi',rfl⟩:=hz;have es:=aO hF hs;have ei:=aO hF hi;simp only [SV.den,Option.some.injEq] at es ei;obtain ⟨c,hc,e1⟩:=eK es;refine bV hx (v:=.pointer (some (c.add (off+n.toNat*inf.size)))) (w':=w) ?_ (done (by simp only [SV.den,gS,hc]) h);unfold Instr.indexAt;simp only [← ei,asIntOf,Sem.run_bind,Sem.run_pure,Result.andThen_ok,run_underlying hu,e1,Instr.sureAddr];simp only [if_pos hn,Sem.run_bind,bY hi',Result.andThen_ok,Sem.run_pure,iQ (hR.spot hc)]
  ·rename_i v off k n len e hs hi hu;split at h;case h_2=>exact h.elim
   rename_i z hz;obtain ⟨hn,h⟩:=dX h;simp only [eJ,Option.map_eq_some_iff] at hz;obtain ⟨inf,hi',rfl⟩:=hz;have es:=aO hF hs;have ei:=aO hF hi;simp only [SV.den,Option.some.injEq] at es ei;obtain ⟨c,l',cap',rfl,e1,hsp⟩:=iE es;refine bV hx (v:=.pointer (some (c.add (off+n.toNat*inf.size)))) (w':=w) ?_ (done (by simp only [SV.den,pF,hsp,if_true]) h);unfold Instr.indexAt;simp only [← ei,asIntOf,Sem.run_bind,Sem.run_pure,Result.andThen_ok,run_underlying hu,e1,Instr.sureAddr];simp only [if_pos hn,Sem.run_bind,bY hi',Result.andThen_ok,Sem.run_pure,iQ hsp]
  ·rename_i b off len cap k n e hs hi hu;split at h;case h_2=>exact h.elim
   rename_i z hz;obtain ⟨hn,h⟩:=dX h;simp only [eJ,Option.map_eq_some_iff] at hz;obtain ⟨inf,hi',rfl⟩:=hz;have es:=aO hF hs;have ei:=aO hF hi;simp only [SV.den,Option.some.injEq] at es ei;rcases cN es with ⟨c,hc,e1⟩|⟨hc,rfl,rfl,rfl,e1⟩
   ·refine bV hx (v:=.pointer (some (c.add (off+n.toNat*inf.size)))) (w':=w) ?_ (done (by simp only [SV.den,gS,hc]) h);unfold Instr.indexAt;simp only [← ei,asIntOf,Sem.run_bind,Sem.run_pure,Result.andThen_ok,run_underlying hu,e1];simp only [if_pos hn,Sem.run_bind,bY hi',Result.andThen_ok,Sem.run_pure,iQ (hR.spot hc)]
   ·omega
  ·rename_i base len cap k n e hs hi hu;split at h;case h_2=>exact h.elim
   rename_i z hz;obtain ⟨hn,⟨cs,hE,hne⟩,h⟩:=dX h;simp only [eJ,Option.map_eq_some_iff] at hz;obtain ⟨inf,hi',rfl⟩:=hz;have es:=aO hF hs;have ei:=aO hF hi;simp only [SV.den,Option.some.injEq] at es ei;rcases hR.hold _ _ hE with rfl|⟨c,l',cap',e2,hsp,_⟩
   ·exact absurd rfl hne
   ·cases e2;refine bV hx (v:=.pointer (some (c.add (n.toNat*inf.size)))) (w':=w) ?_ (done (by simp only [SV.den,pF,hsp,if_true]) h);unfold Instr.indexAt;simp only [← ei,asIntOf,Sem.run_bind,Sem.run_pure,Result.andThen_ok,run_underlying hu,← es];simp only [if_pos hn,Sem.run_bind,bY hi',Result.andThen_ok,Sem.run_pure]
  ·exact h.elim
 | index T x i=>
  simp only [kg] at h;have hx:execOp a.eval ⟨dst,.index T x i,type,pos,after,guard⟩=(do pure (Next.value (← Instr.index T (a.eval x) (a.eval i)))):=rfl
  split at h
  ·rename_i s k n len e hs hi hu;split at h;case h_2=>exact h.elim
   rename_i cs z hcs hz;obtain ⟨hn,h2⟩:=dX h;clear h;split at h2;case h_2=>exact h2.elim
   rename_i r hr;simp only [eJ,Option.map_eq_some_iff] at hz;obtain ⟨inf,hi',rfl⟩:=hz;have ei:=aO hF hi;simp only [SV.den,Option.some.injEq] at ei;obtain ⟨vs,e1,e2⟩:=gV hcs (aO hF hs);obtain ⟨v,e3,e4⟩:=kK (P:=P) (w:=w) hr e2;refine bV hx ?_ (done e3 h2);unfold Instr.index;simp only [← ei,asIntOf,Sem.run_bind,Sem.run_pure,Result.andThen_ok,run_underlying hu,e1];simp only [if_pos hn,Sem.run_bind,bY hi',Result.andThen_ok,e4]
  ·rename_i v j hs hi _;have es:=aO hF hs;have ei:=aO hF hi;simp only [SV.den,Option.some.injEq] at es ei;rw [es,ei] at h;exact iF hR hk hx h
  ·exact h.elim
 | call c=>
  simp only [kg] at h;split at h;case h_2=>exact h.elim
  rename_i args hargs;have ea:=jU hF hargs;have Ai:∀ vs:Lv,SV.bF ρ args=some vs->c.args.map a.eval=vs.toArray:=by intro vs hv;rw [ea] at hv;cases hv;apply Array.ext';simp
  -- a call of a function of the program
  have key:∀ {g:FuncId} {ss:List SV} {vs:Lv},SV.bF ρ ss=some vs->yj ak g ss S.bx S.E K->(jT (.call c) S=true->(SV.fY ss).isSome=true)->
    (execOp a.eval ⟨dst,.call c,type,pos,after,guard⟩).run P w=(callFunc g vs.toArray).run P w->
    Oper.uponIn (fW ro) 0 P ⟨dst,.call c,type,pos,after,guard⟩ a next Q ((execOp a.eval ⟨dst,.call c,type,pos,after,guard⟩).run P w):=by
   intro g ss vs hv hc hgrow hrun;unfold yj at hc;split at hc
   ·exact hc.elim
   rename_i hne;split at hc
   ·rename_i us iX;have h0:=dP g ss [] S.E _ hc;rw [if_neg hne] at h0;have wq:=BL (K:=λs bx E'=>(S.bx<+:bx/\Mem.le S.E E')/\K s bx E') (bx:=S.bx) iX h0 (λs jD E' x=>⟨⟨List.prefix_append _ _,x.1⟩,x.2⟩);rw [hrun];rcases wq w0 mu ρ w vs hR hv with ⟨BN,wq⟩|⟨v,w',hval,he⟩
    ·rw [BN];refine ⟨(λq=>by cases q),F4 (wq.mono λe w' he=>?_)⟩;obtain ⟨v,s,bA,E',ρ',rfl,h1,h2,h3,h5,h4⟩:=he;exact hk _ _ _ _ _ _ h1 h2 h3 (λ_=>h5) h4
    ·rw [hval];obtain ⟨v',s,bA,E',ρ',q,h1,h2,h3,h5,h4⟩:=he
     cases q;exact hk _ _ _ _ _ _ h1 h2 h3 (λ_=>h5) h4
   ·rename_i iX;have h0:=dP g ss S.bx S.E K hc;rw [if_neg hne] at h0;rw [hrun];rcases h0 w0 mu ρ w vs hR hv with ⟨BN,wq⟩|⟨v,w',hval,he⟩
    ·rw [BN];refine ⟨(λq=>by cases q),F4 (wq.mono λe w' he=>?_)⟩;obtain ⟨v,s,bA,E',ρ',rfl,h1,h2,h3,h4⟩:=he;exact hk _ _ _ _ _ _ h1 h2 h3 (λhg=>by have:=hgrow hg;rw [iX] at this;cases this) h4
    ·rw [hval];obtain ⟨v',s,bA,E',ρ',q,h1,h2,h3,h4⟩:=he
     cases q;exact hk _ _ _ _ _ _ h1 h2 h3 (λhg=>by have:=hgrow hg;rw [iX] at this;cases this) h4
  split at h
  ·rename_i f hf;split at h;case h_3=>exact h.elim
   case h_2=>
    rename_i l m b hg;have eg:=aO hF hg;simp only [SV.den,Option.some.injEq] at eg;have h0:=dP LG _ S.bx S.E K h;rw [if_pos rfl] at h0;obtain ⟨l',m',b',rest,e1,h0⟩:=h0;simp only [List.cons.injEq,SV.raw.injEq,Value.func.injEq,Fn.yield.injEq] at e1;obtain ⟨⟨rfl,rfl,rfl⟩,rfl⟩:=e1;obtain ⟨fn',tmps,assign,body,hy,Nn⟩:=h0 w0 mu ρ w _ QC hR ea;have hrun:(execOp a.eval ⟨dst,.call c,type,pos,after,guard⟩).run P w= .ok (.round l fn' tmps assign body) w:=by
     rw [← hy];show Sem.run P (do let d ← resolve a.eval c type;invoke d.target d.args) w=_
     have wu:c.args.map a.eval=(c.args.toList.map a.eval).toArray:=by apply Array.ext';simp
     simp only [resolve,hf,← eg,Deferred.ofValue,Sem.run_bind,Sem.run_pure,Result.andThen_ok,invoke,wu]
    rw [hrun];refine ⟨(λq=>by cases q),Nl (Nn.mono λe w' he=>?_)⟩;obtain ⟨v,s,bA,E',ρ',rfl,h1,h2,h3,h4⟩:=he;exact hk _ _ _ _ _ _ h1 h2 h3 (λNo=>by simp [jT,hargs,hf,hg] at No) h4
   rename_i g first jL hg
   have eg:=aO hF hg;have eg':∃ us vs,SV.bF ρ first=some us/\SV.bF ρ jL=some vs/\.func (.func g) us.toArray vs.toArray=a.eval f:=by
    simp only [SV.den] at eg;split at eg
    ·rename_i us vs e1 e2;simp only [Option.some.injEq] at eg;exact ⟨us,vs,e1,e2,eg⟩
    ·cases eg
   obtain ⟨fv,cv,e0,e1,e2⟩:=eg';refine key (dQ (dQ e0 ea) e1) h (λNo=>by simpa [jT,hargs,hf,hg] using No) ?_;show Sem.run P (do let d ← resolve a.eval c type;invoke d.target d.args) w=_
   have wu:c.args.map a.eval=(c.args.toList.map a.eval).toArray:=by apply Array.ext';simp
   simp only [resolve,hf,← e2,Deferred.ofValue,Sem.run_bind,Sem.run_pure,Result.andThen_ok,invoke,wu];simp
  ·rename_i r name hr;split at h;case h_2=>exact h.elim
   rename_i T v hv;split at h;case h_2=>exact h.elim
   rename_i g hg;have er:=aO hF hv;simp only [SV.den,Option.map_eq_some_iff] at er;obtain ⟨x,e1,e2⟩:=er;refine key (vs:=x::c.args.toList.map a.eval) (by simp only [SV.bF,e1,ea]) h (λNo=>by simpa [jT,hargs,hr,hv] using No) ?_;show Sem.run P (do let d ← resolve a.eval c type;invoke d.target d.args) w=_
   have wu:c.args.map a.eval=(c.args.toList.map a.eval).toArray:=by apply Array.ext';simp
   have hm:=BM (P:=P) hg x (P.types.size+Made.depth-1) w;have hd:P.types.size+Made.depth-1+1=P.types.size+Made.depth:=by unfold Made.depth;omega
   rw [hd] at hm;simp only [resolve,hr,← e2,Sem.run_bind,Sem.run_pure,Result.andThen_ok,invoke,wu];have Np:(#[Value.iface T x]++(c.args.toList.map a.eval).toArray)[0]? =some (Value.iface T x):=by simp
   have hx1:(#[Value.iface T x]++(c.args.toList.map a.eval).toArray).extract 1 (#[Value.iface T x]++(c.args.toList.map a.eval).toArray).size=(c.args.toList.map a.eval).toArray:=by apply Array.ext';simp [List.take_of_length_le]
   simp only [Np,hx1,callMethod,Sem.run_bind,run_program,Result.andThen_ok,hm];congr 2;apply Array.ext';simp
  ·rename_i hc;have hx:execOp a.eval ⟨dst,.call c,type,pos,after,guard⟩=(do pure (Next.value (← Builtin.len_ c.argTypes type (c.args.map a.eval)))):=by
    simp only [execOp,resolve,hc];rfl
   have ht:∀ {d},(c.argTypes[0]?).bind P.underlying=some d->∃ t,c.argTypes[0]? =some t/\P.underlying t=some d:=λ{d} e=>by simpa [Option.bind_eq_some_iff] using e
   split at h
   ·rename_i base n cap e hu;obtain ⟨t,wv,wx⟩:=ht hu;have ev:c.args.map a.eval= #[.slice base n cap]:=Ai _ rfl;refine bV hx (v:=.int .i64 n) (w':=w) ?_ (done rfl h);unfold Builtin.len_;simp [ev,wv,run_underlying wx,goInt]
   ·rename_i b off n cap e hu;obtain ⟨t,wv,wx⟩:=ht hu;refine bV hx (v:=.int .i64 n) (w':=w) ?_ (done rfl h);have hd:∃ base,c.args.map a.eval= #[.slice base n cap]:=by
     have zo:=ea;simp only [SV.bF,SV.den] at zo
     cases wg:eu ρ b off n cap with
     | none=>rw [wg] at zo;simp at zo
     | some v=>
      rw [wg] at zo;have:=Ai [v] (by simp only [SV.bF,SV.den,wg]);rcases cN wg with ⟨c',_,rfl⟩|⟨_,rfl,rfl,rfl,rfl⟩
      ·exact ⟨_,this⟩
      ·exact ⟨_,this⟩
    obtain ⟨base,ev⟩:=hd;unfold Builtin.len_;simp [ev,wv,run_underlying wx,goInt]
   ·rename_i s hu;obtain ⟨t,wv,wx⟩:=ht hu;have ev:c.args.map a.eval= #[.string s]:=Ai _ rfl;refine bV hx (v:=.int .i64 s.size) (w':=w) ?_ (done rfl h);unfold Builtin.len_;simp [ev,wv,run_underlying wx,goInt]
   ·rename_i s0 n e hu;obtain ⟨t,wv,wx⟩:=ht hu;refine bV hx (v:=.int .i64 n) (w':=w) ?_ (done rfl h);have hd:∃ x,c.args.map a.eval= #[x]:=by
     have hl:=bN ea;have hsz:(c.args.map a.eval).size=1:=by simpa using hl
     refine ⟨(c.args.map a.eval)[0],?_⟩;apply Array.ext<;>simp [hsz];intro i h1;have :i=0:=by omega
     subst this;simp
    obtain ⟨x,ev⟩:=hd;unfold Builtin.len_;simp [ev,wv,run_underlying wx,goInt]
   ·exact h.elim
  ·rename_i hc;have hx:execOp a.eval ⟨dst,.call c,type,pos,after,guard⟩=(do pure (Next.value (← Builtin.cap_ c.argTypes type (c.args.map a.eval)))):=by
    simp only [execOp,resolve,hc];rfl
   have ht:∀ {d},(c.argTypes[0]?).bind P.underlying=some d->∃ t,c.argTypes[0]? =some t/\P.underlying t=some d:=λ{d} e=>by simpa [Option.bind_eq_some_iff] using e
   split at h
   ·rename_i base n cap e hu;obtain ⟨t,wv,wx⟩:=ht hu;have ev:c.args.map a.eval= #[.slice base n cap]:=Ai _ rfl;refine bV hx (v:=.int .i64 cap) (w':=w) ?_ (done rfl h);unfold Builtin.cap_;simp [ev,wv,run_underlying wx,goInt]
   ·rename_i b off n cap e hu;obtain ⟨t,wv,wx⟩:=ht hu;refine bV hx (v:=.int .i64 cap) (w':=w) ?_ (done rfl h);have hd:∃ base,c.args.map a.eval= #[.slice base n cap]:=by
     have zo:=ea;simp only [SV.bF,SV.den] at zo
     cases wg:eu ρ b off n cap with
     | none=>rw [wg] at zo;simp at zo
     | some v=>
      rw [wg] at zo;have:=Ai [v] (by simp only [SV.bF,SV.den,wg]);rcases cN wg with ⟨c',_,rfl⟩|⟨_,rfl,rfl,rfl,rfl⟩
      ·exact ⟨_,this⟩
      ·exact ⟨_,this⟩
    obtain ⟨base,ev⟩:=hd;unfold Builtin.cap_;simp [ev,wv,run_underlying wx,goInt]
   ·exact h.elim
  ·rename_i hc;have hx:execOp a.eval ⟨dst,.call c,type,pos,after,guard⟩=(do pure (Next.value (← Builtin.append_ c.argTypes type (c.args.map a.eval)))):=by
    simp only [execOp,resolve,hc];rfl
   split at h;case h_2=>exact h.elim
   rename_i s x t u QD;have JH:c.argTypes= #[t,u]:=by apply Array.ext';simpa using QD
   simp only [SV.bF] at ea;split at ea;case h_2=>cases ea
   rename_i sv us JK iX;split at iX;case h_2=>cases iX
   rename_i xv vs P0 hvs;simp only [Option.some.injEq] at hvs iX;subst hvs;subst iX;have P1:c.args.map a.eval= #[sv,xv]:=Ai [sv,xv] (by simp only [SV.bF,JK,P0]);split at h
   ·rename_i e f ht hu;obtain ⟨v,w',s',bA,E',ρ',h1,h2,h3,h4,h5⟩:=xX (P:=P) (ty:=type) ht hu h hR JK P0;exact bV hx (by rw [JH,P1];exact h1) (hk _ _ _ _ _ _ h2 h3 h4 (λhg=>by simp [jT,hargs,hc] at hg) h5)
   ·rename_i e kn ht hu;obtain ⟨v,w',s',bA,ρ',h1,h2,h3,h4,h5⟩:=xZ (P:=P) (ty:=type) ht hu h hR JK P0;exact bV hx (by rw [JH,P1];exact h1) (hk _ _ _ _ _ _ h2 h3 h4 (λhg=>by simp [jT,hargs,hc] at hg) h5)
   ·exact h.elim
  ·rename_i hc;have hx:execOp a.eval ⟨dst,.call c,type,pos,after,guard⟩=(do pure (Next.value (← Builtin.copy_ c.argTypes type (c.args.map a.eval)))):=by
    simp only [execOp,resolve,hc];rfl
   split at h;case h_2=>exact h.elim
   rename_i s x t u QD;split at h;case h_2=>exact h.elim
   rename_i e f ht hu;have JH:c.argTypes= #[t,u]:=by apply Array.ext';simpa using QD
   simp only [SV.bF] at ea;split at ea;case h_2=>cases ea
   rename_i sv us JK iX;split at iX;case h_2=>cases iX
   rename_i xv vs P0 hvs;simp only [Option.some.injEq] at hvs iX;subst hvs;subst iX;have P1:c.args.map a.eval= #[sv,xv]:=Ai [sv,xv] (by simp only [SV.bF,JK,P0]);obtain ⟨v,w',s',bA,h1,h3,h4,h5⟩:=Au (P:=P) (ty:=type) ht hu h hR JK P0;exact bV hx (by rw [JH,P1];exact h1) (hk _ _ _ _ _ _ (List.prefix_refl _) h3 h4 (λhg=>by simp [jT,hargs,hc] at hg) h5)
  ·rename_i hc;have hx:execOp a.eval ⟨dst,.call c,type,pos,after,guard⟩=(do pure (Next.value (← Builtin.clear_ c.argTypes type (c.args.map a.eval)))):=by
    simp only [execOp,resolve,hc];rfl
   split at h;case h_2=>exact h.elim
   rename_i s t QD;split at h;case h_2=>exact h.elim
   rename_i e ht;have JH:c.argTypes= #[t]:=by apply Array.ext';simpa using QD
   simp only [SV.bF] at ea;split at ea;case h_2=>cases ea
   rename_i sv us JK iX;simp only [Option.some.injEq] at iX;subst iX;have P1:c.args.map a.eval= #[sv]:=Ai [sv] (by simp only [SV.bF,JK]);obtain ⟨v,w',s',bA,h1,h3,h4,h5⟩:=zn (P:=P) (ty:=type) ht h hR JK;exact bV hx (by rw [JH,P1];exact h1) (hk _ _ _ _ _ _ (List.prefix_refl _) h3 h4 (λhg=>by simp [jT,hargs,hc] at hg) h5)
  ·rename_i hc;split at h;case h_2=>exact h.elim
   rename_i vs hv;have hx:execOp a.eval ⟨dst,.call c,type,pos,after,guard⟩=(do pure (Next.value (← Builtin.min_ #[] 0 vs.toArray))):=by have:=Ai vs (SV.dR ρ args hv);simp only [execOp,resolve,hc,this];rfl
   exact iF hR hk hx h
  ·rename_i hc;split at h;case h_2=>exact h.elim
   rename_i vs hv;have hx:execOp a.eval ⟨dst,.call c,type,pos,after,guard⟩=(do pure (Next.value (← Builtin.max_ #[] 0 vs.toArray))):=by have:=Ai vs (SV.dR ρ args hv);simp only [execOp,resolve,hc,this];rfl
   exact iF hR hk hx h
  ·exact h.elim
 | _=>exact h.elim
end
end Go.Sx
namespace Go.Sx
open Go.RowKit (Below)
variable {w0 w:World} {mu:Fm} {dr ρ:Env} {a:Act} {S:St} {s:SV} {Q:Exit->Act->World->Prop} {ro:Option Nat} {o:Oper} {Ω:Option Rc}
inductive Ex where
 | normal|exit (id:Nat)|ret
def St.put (S:St) (dst:Option Tmp) (s:SV):St:=
 match dst with
 | some d=>{ S with fr:=S.fr.set d (some s) }
 | none=>S
def ou (all:Array Oper) (o:Oper) (S:St) (exec skip:St->Prop):Prop:=
 match o.guard with
 | none=>exec S
 | some (j,want)=>
  match (all[j]?).bind (·.dst) with
  | none=>False
  | some d=>match S.fr[d]? with
   | some (some (.raw (.bool b)))=>match want with
    | true=>cond b (exec (S.put (some d) (.raw (.bool true)))) (skip (S.put (some d) (.raw (.bool false))))
    | false=>cond b (skip (S.put (some d) (.raw (.bool true)))) (exec (S.put (some d) (.raw (.bool false))))
   | some (some (.raw (.tuple _)))=>skip S
   | _=>False
def kj (P:Program) (ak:cK) (all:Array Oper) (o:Oper) (S:St) (K:St->Prop):Prop:=
 ou all o S (λS=>kg P ak o.op S λs bx E=>K (({ S with bx:=bx,E:=E }:St).put o.dst s)) (λS=>K (S.put o.dst (.raw undef)))
def nB (P:Program) (ak:cK) (all:Array Oper) (o:Oper) (S:St) (K:St->Prop):Prop:=
 ou all o S (λS=>if jT o.op S then kg P ak o.op S λs bx E=>K (({ S with bx:=bx,E:=E }:St).put o.dst s) else False) (λS=>K (S.put o.dst (.raw undef)))
def Ed (P:Program) (ak:cK) (all:Array Oper):List Oper->St->(St->Prop)->Prop
 | [],S,K=>K S
 | o::r,S,K=>kj P ak all o S λS'=>Ed P ak all r S' K
def gz (w0:World) (mu:Fm) (dr:Env) (K:St->Prop):Act->World->Prop:=λa w=>
 (a.defers=mu.ds/\mL w0 mu)/\∃ S ρ,dr<+:ρ/\Rel w0 mu S.bx S.E ρ w/\cV ρ S.fr a.tmps/\K S
def okD (w0:World) (mu:Fm):Prop:=mu.ds.Nodup/\∀ d∈mu.ds,∃ D,d={ target:=.collected D,args:=#[] }/\w0.heap[D]? =some (.deferred (some []))/\D ∉ mu.mu
structure vp (w0:World) (mu:Fm) (w1:World) (pL:Fm):Prop where
 om:pL.om=mu.om
 back:∀ bx E ρ w,Rel w1 pL bx E ρ w->Rel w0 mu bx E ρ w
 F5:∀ c o bx E ρ w,mu.om=some c->mL w0 mu->Rel (w1.putObj c.l (.loop o)) pL bx E ρ w->Rel (w0.putObj c.l (.loop o)) mu bx E ρ w
 TO:mL w0 mu->mL w1 pL
 size:w0.heap.size<=w1.heap.size
 mark:okD w0 mu->okD w1 pL
 fresh:∀ d∈pL.ds,d∈mu.ds\/∃ D,d={ target:=.collected D,args:=#[] }/\w0.heap.size<=D
theorem vp.refl (w0:World) (mu:Fm):vp w0 mu w0 mu:=⟨rfl,λ_ _ _ _ h=>h,λ_ _ _ _ _ _ _ _ h=>h,λh=>h,Nat.le_refl _,λh=>h,λ_ h=>.inl h⟩
theorem vp.trans {w1 w2:World} {pL P2:Fm} (h:vp w0 mu w1 pL) (k:vp w1 pL w2 P2):vp w0 mu w2 P2:=
 ⟨k.om.trans h.om,λbx E ρ w x=>h.back bx E ρ w (k.back bx E ρ w x),λc o bx E ρ w e ho x=>h.F5 c o bx E ρ w e ho (k.F5 c o bx E ρ w (h.om.trans e) (h.TO ho) x),λx=>k.TO (h.TO x),Nat.le_trans h.size k.size,λx=>k.mark (h.mark x),λd hd=>by
  rcases k.fresh d hd with q|⟨D,e,q⟩
  ·exact h.fresh d q
  ·exact .inr ⟨D,e,Nat.le_trans h.size q⟩⟩
def jb (w0:World) (mu:Fm) (dr:Env) (K:St->Prop):Act->World->Prop:=λa w=>∃ w1 pL,vp w0 mu w1 pL/\gz w1 pL dr K a w
def yo (w0:World) (mu:Fm) (dr:Env):Act->World->Prop:=λa w=>∃ c,mu.om=some c/\mL w0 mu/\∃ w1 pL,vp w0 mu w1 pL/\a.defers=pL.ds/\∃ bx E ρ,dr<+:ρ/\Rel (w1.putObj c.l (.loop c.stop)) pL bx E ρ w/\c.q bx E
def lE (w0:World) (mu:Fm) (dr:Env) (Q:Ex->St->Prop):Exit->Act->World->Prop
 | .normal=>jb w0 mu dr (Q .normal)
 | .exit id=>jb w0 mu dr (Q (.exit id))
 | .ret=>λa w=>jb w0 mu dr (Q .ret) a w\/yo w0 mu dr a w
 | _=>λ_ _=>False
theorem gz.mono {K K':St->Prop} (h:gz w0 mu dr K a w) (hk:∀ S,K S->K' S):gz w0 mu dr K' a w:=
 let ⟨h1,S,ρ,h2,h3,h4,h5⟩:=h;⟨h1,S,ρ,h2,h3,h4,hk S h5⟩
theorem jb.mono {K K':St->Prop} (h:jb w0 mu dr K a w) (hk:∀ S,K S->K' S):jb w0 mu dr K' a w:=
 let ⟨w1,pL,h1,h2⟩:=h;⟨w1,pL,h1,h2.mono hk⟩
theorem jb.of {K:St->Prop} (h:gz w0 mu dr K a w):jb w0 mu dr K a w:=⟨w0,mu,vp.refl w0 mu,h⟩
theorem jb.base {w1:World} {pL:Fm} {K:St->Prop} (hb:vp w0 mu w1 pL) (h:jb w1 pL dr K a w):jb w0 mu dr K a w:=
 let ⟨w2,P2,h1,h2⟩:=h;⟨w2,P2,hb.trans h1,h2⟩
theorem cV.put (h:cV ρ S.fr a.tmps) (dst:Option Tmp) {v:Value} (hv:s.den ρ=some v):cV ρ (S.put dst s).fr (a.put dst v).tmps:=by
 cases dst with
 | none=>exact h
 | some d=>exact h.set d hv
theorem put_defers (a:Act) (dst:Option Tmp) (v:Value):(a.put dst v).defers=a.defers:=by cases dst<;>rfl
theorem St.nC (S:St) (dst:Option Tmp) (s:SV):(S.put dst s).bx=S.bx:=by cases dst<;>rfl
theorem St.mV (S:St) (dst:Option Tmp) (s:SV):(S.put dst s).E=S.E:=by cases dst<;>rfl
theorem cV.lit {d:Nat} {b c:Bool} (hF:cV ρ S.fr a.tmps) (h1:a.tmps[d]? =some (.bool b)) (e:b=c):cV ρ (S.put (some d) (.raw (.bool c))).fr a.tmps:=by
 subst e;have:=cV.put (S:=S) (a:=a) hF (some d) (s:=.raw (.bool b)) (v:=.bool b) rfl;have e2:(a.put (some d) (.bool b)).tmps=a.tmps:=by
  simp only [Act.put];apply Array.ext_getElem?;intro i;by_cases hi:d=i
  ·subst hi;have hlt:d<a.tmps.size:=by
    rcases Nat.lt_or_ge d a.tmps.size with h'|h'
    ·exact h'
    ·simp [Array.getElem?_eq_none h'] at h1
   simp [hlt];simpa [hlt] using h1.symm
  ·rw [Array.getElem?_setIfInBounds_ne hi]
 rw [e2] at this;exact this
section
variable {P:Program} {ak:cK} {all:Array Oper}
theorem LO {next:Act->World->Prop} (hnd:∀ c,o.op≠.defer c) (h:o.uponIn (fW ro) 0 P a next Q ((execOp a.eval o).run P w)):o.wpIn (fW ro) 0 P a w next Q:=
 ⟨λ_ _=>trivial,by rw [Oper.semAt_eq _ _ _ hnd];exact h⟩
theorem yp {K:KT} {op:Op} (h:kg P ak op S K):∀ c,op≠.defer c:=by rintro c rfl;exact h
theorem mW (dP:ja Ω P ak) {K:St->Prop}
  (pN:mu.om=Ω/\xJ Ω dr) (h:gz w0 mu dr (λS=>kj P ak all o S K) a w):
  if Region.wanted o (yielded all a.tmps)=true then o.wpIn (fW ro) 0 P a w (gz w0 mu dr K) Q else gz w0 mu dr K (a.put o.dst undef) w:=by
 obtain ⟨hd,S,ρ,hp,hR,hF,h⟩:=h;have hex:∀ S':St,S'.bx=S.bx->S'.E=S.E->cV ρ S'.fr a.tmps->(kg P ak o.op S' λs bx E=>K (({ S' with bx:=bx,E:=E }:St).put o.dst s))->o.wpIn (fW ro) 0 P a w (gz w0 mu dr K) Q:=by
  intro S' h1 h2 mM hop;have iT:Rel w0 mu S'.bx S'.E ρ w:=by rw [h1,h2];exact hR
  have hk:vS o.op S' o.dst a ρ w0 mu (λs bx E=>K (({ S' with bx:=bx,E:=E }:St).put o.dst s)) (gz w0 mu dr K):=by
   intro s v bx E ρ' w' qZ hs Bm _ hK;refine ⟨by rw [put_defers];exact hd,_,ρ',hp.trans qZ,?_,?_,hK⟩
   ·rw [St.nC,St.mV];exact Bm
   ·exact cV.put (S:={ S' with bx:=bx,E:=E }) (mM.mono qZ) o.dst hs
  exact LO (yp hop) (yn dP ⟨⟨pN.1,pN.2.mono hp⟩,hd.2⟩ iT mM hop hk)
 have F6:∀ S':St,S'.bx=S.bx->S'.E=S.E->cV ρ S'.fr a.tmps->K (S'.put o.dst (.raw undef))->gz w0 mu dr K (a.put o.dst undef) w:=by intro S' h1 h2 mM hK;refine ⟨by rw [put_defers];exact hd,_,ρ,hp,?_,cV.put mM o.dst rfl,hK⟩;rw [St.nC,St.mV,h1,h2];exact hR
 unfold kj ou at h;split at h
 ·rename_i hg;rw [if_pos (by simp [Region.wanted,hg])];exact hex S rfl rfl hF h
 ·rename_i j want hg;split at h
  ·exact h.elim
  ·rename_i d hj;split at h
   ·rename_i b hb;obtain ⟨v,h1,h2⟩:=hF.2 d _ hb;simp only [SV.den,Option.some.injEq] at h2;subst h2;have hy:yielded all a.tmps j=some b:=by simp [yielded,hj,h1]
    have iz:∀ c:Bool,b=c->cV ρ (S.put (some d) (.raw (.bool c))).fr a.tmps:=λc e=>cV.lit hF h1 e
    cases want<;>cases b<;>simp only [cond] at h
    ·rw [if_pos (by simp [Region.wanted,hg,hy])];exact hex (S.put (some d) (.raw (.bool false))) rfl rfl (iz false rfl) h
    ·rw [if_neg (by simp [Region.wanted,hg,hy])];exact F6 (S.put (some d) (.raw (.bool true))) rfl rfl (iz true rfl) h
    ·rw [if_neg (by simp [Region.wanted,hg,hy])];exact F6 (S.put (some d) (.raw (.bool false))) rfl rfl (iz false rfl) h
    ·rw [if_pos (by simp [Region.wanted,hg,hy])];exact hex (S.put (some d) (.raw (.bool true))) rfl rfl (iz true rfl) h
   ·rename_i vs hb;obtain ⟨v,h1,h2⟩:=hF.2 d _ hb;simp only [SV.den,Option.some.injEq] at h2;subst h2;have hy:yielded all a.tmps j=none:=by simp [yielded,hj,h1]
    rw [if_neg (by simp [Region.wanted,hg,hy])];exact F6 S rfl rfl hF h
   ·exact h.elim
theorem ow (dP:ja Ω P ak) {K:St->Prop}
  (pN:mu.om=Ω/\xJ Ω dr) (hd:a.defers=mu.ds/\mL w0 mu) (hp:dr<+:ρ) (hR:Rel w0 mu S.bx S.E ρ w) (hF:cV ρ S.fr a.tmps) (h:nB P ak all o S K):
  if Region.wanted o (yielded all a.tmps)=true then o.wpIn (fW ro) 0 P a w (gz w0 mu dr λS'=>(S.bx<+:S'.bx/\Mem.le S.E S'.E)/\K S') Q
  else gz w0 mu dr (λS'=>(S.bx<+:S'.bx/\Mem.le S.E S'.E)/\K S') (a.put o.dst undef) w:=by
 have hex:∀ S':St,S'.bx=S.bx->S'.E=S.E->cV ρ S'.fr a.tmps->(if jT o.op S' then kg P ak o.op S' λs bx E=>K (({ S' with bx:=bx,E:=E }:St).put o.dst s) else False)->o.wpIn (fW ro) 0 P a w (gz w0 mu dr λS'=>(S.bx<+:S'.bx/\Mem.le S.E S'.E)/\K S') Q:=by
  intro S' h1 h2 mM hop;split at hop;case isFalse=>exact hop.elim
  rename_i hgrow;have iT:Rel w0 mu S'.bx S'.E ρ w:=by rw [h1,h2];exact hR
  have hk:vS o.op S' o.dst a ρ w0 mu (λs bx E=>K (({ S' with bx:=bx,E:=E }:St).put o.dst s)) (gz w0 mu dr λS'=>(S.bx<+:S'.bx/\Mem.le S.E S'.E)/\K S'):=by
   intro s v bx E ρ' w' qZ hs Bm QE hK;refine ⟨by rw [put_defers];exact hd,_,ρ',hp.trans qZ,?_,?_,?_,hK⟩
   rotate_right
   ·rw [St.nC,St.mV,← h1,← h2];exact QE hgrow
   ·rw [St.nC,St.mV];exact Bm
   ·exact cV.put (S:={ S' with bx:=bx,E:=E }) (mM.mono qZ) o.dst hs
  exact LO (yp hop) (yn dP ⟨⟨pN.1,pN.2.mono hp⟩,hd.2⟩ iT mM hop hk)
 have F6:∀ S':St,S'.bx=S.bx->S'.E=S.E->cV ρ S'.fr a.tmps->K (S'.put o.dst (.raw undef))->gz w0 mu dr (λS'=>(S.bx<+:S'.bx/\Mem.le S.E S'.E)/\K S') (a.put o.dst undef) w:=by intro S' h1 h2 mM hK;refine ⟨by rw [put_defers];exact hd,_,ρ,hp,?_,cV.put mM o.dst rfl,⟨by rw [St.nC,h1];exact List.prefix_refl _,by rw [St.mV,h2];exact Mem.le_refl _⟩,hK⟩;rw [St.nC,St.mV,h1,h2];exact hR
 unfold nB ou at h;split at h
 ·rename_i hg;rw [if_pos (by simp [Region.wanted,hg])];exact hex S rfl rfl hF h
 ·rename_i j want hg;split at h
  ·exact h.elim
  ·rename_i d hj;split at h
   ·rename_i b hb;obtain ⟨v,h1,h2⟩:=hF.2 d _ hb;simp only [SV.den,Option.some.injEq] at h2;subst h2;have hy:yielded all a.tmps j=some b:=by simp [yielded,hj,h1]
    have iz:∀ c:Bool,b=c->cV ρ (S.put (some d) (.raw (.bool c))).fr a.tmps:=λc e=>cV.lit hF h1 e
    cases want<;>cases b<;>simp only [cond] at h
    ·rw [if_pos (by simp [Region.wanted,hg,hy])];exact hex (S.put (some d) (.raw (.bool false))) rfl rfl (iz false rfl) h
    ·rw [if_neg (by simp [Region.wanted,hg,hy])];exact F6 (S.put (some d) (.raw (.bool true))) rfl rfl (iz true rfl) h
    ·rw [if_neg (by simp [Region.wanted,hg,hy])];exact F6 (S.put (some d) (.raw (.bool false))) rfl rfl (iz false rfl) h
    ·rw [if_pos (by simp [Region.wanted,hg,hy])];exact hex (S.put (some d) (.raw (.bool true))) rfl rfl (iz true rfl) h
   ·rename_i vs hb;obtain ⟨v,h1,h2⟩:=hF.2 d _ hb;simp only [SV.den,Option.some.injEq] at h2;subst h2;have hy:yielded all a.tmps j=none:=by simp [yielded,hj,h1]
    rw [if_neg (by simp [Region.wanted,hg,hy])];exact F6 S rfl rfl hF h
   ·exact h.elim
theorem rC {ro:Option Nat} {Ω:Option Rc} (dP:ja Ω P ak) {w0:World} {mu:Fm} {dr:Env} {K:St->Prop} {Q:Exit->Act->World->Prop} (pN:mu.om=Ω/\xJ Ω dr) (hQ:∀ a w,gz w0 mu dr K a w->Q .normal a w):
  ∀ (l:List Oper) (a:Act) (w:World),gz w0 mu dr (λS=>Ed P ak all l S K) a w->wpListIn (fW ro) 0 P all Q l a w
 | [],a,w,h=>hQ a w h
 | o::l,a,w,h=>by
  have:=mW (ro:=ro) (Q:=Q) dP (o:=o) (K:=λS'=>Ed P ak all l S' K) pN h;simp only [wpListIn];split
  ·rename_i hw;rw [if_pos hw] at this;exact Oper.wpIn_mono (λa w h=>rC dP pN hQ l a w h) this
  ·rename_i hw;rw [if_neg hw] at this;exact ⟨λ_ _=>trivial,rC dP pN hQ l _ _ this⟩
end
def lF:Op->Bool
 | .move _| .assign _| .pick .. | .build .. | .load .. | .nilCheck _| .binOp .. | .unOp .. | .makeInterface .. | .makeFunc .. | .fieldAddr .. | .field .. | .indexAddr .. | .index .. | .extract .. | .typeAssert .. =>true
 | .slice .. =>true
 | .convert src dst _=>src !=dst
 | .call { callee:=.builtin .len,.. }| .call { callee:=.builtin .min,.. }| .call { callee:=.builtin .max,.. }| .call { callee:=.builtin .cap,.. }=>true
 | _=>false
def jY:Op->Bool
 | .load .. =>true
 | _=>false
def jZ (ops:Array Oper) (listed:Array Bool) (k:Nat):Nat->List Nat->List Nat
 | 0,acc=>acc
 | n+1,acc=>
  match (List.range ops.size).find? (λj=> !listed.getD j true&&j !=k&& !acc.contains j&&((ops[j]?).map (·.after.any λe=>Region.binds .any e&&(e.on==k||acc.contains e.on))).getD false) with
  | some j=>jZ ops listed k n (j::acc)
  | none=>acc
def iU (ds:List Nat):Nat->List (Option SV)->List (Option SV)
 | _,[]=>[]
 | k,o::l=>(if ds.contains k then none else o)::iU ds (k+1) l
def St.forget (S:St) (ds:List Nat):St:={ S with fr:=iU ds 0 S.fr }
def cR (all:Array Oper) (i:Nat):Bool:=((all[i]?).map (lF ·.op)).getD false
def zq (all:Array Oper) (i:Nat):Bool:=((all[i]?).map (jY ·.op)).getD true
def gj (xK:TypeId->Bool) (all:Array Oper) (i:Nat):Bool:=
 match all[i]? with
 | some ⟨some d,.alloc T,_,_,_,none⟩=>xK T&&(List.range all.size).all λk=>k==i||decide (((all[k]?).bind (·.dst))≠some d)
 | _=>false
def kG (listed:Array Bool):List Nat->Array Bool
 | []=>listed
 | i::l=>kG (listed.setIfInBounds i true) l
inductive PT where
 | nil|bad|fin
 | q (i:Nat) (t:PT)
 | g (i:Nat) (t:PT)
 | al (i:Nat) (t:PT)
 | br (i:Nat) (t rest:PT)
 | Nq (i:Nat) (t rest:PT)
def nO (f:Nat->PT):List Nat->PT
 | []=>.fin
 | [i]=>.q i (f i)
 | i::l=>.br i (f i) (nO f l)
def lN (D:Nat->Bool) (f:Nat->PT):List Nat->PT
 | []=>.fin
 | [i]=>match D i with
  | true=>.q i (f i)
  | false=>.g i (f i)
 | i::l=>match D i with
  | true=>.br i (f i) (lN D f l)
  | false=>.Nq i (f i) (lN D f l)
def ox (all:Array Oper) (tail:List Nat) (listed:Array Bool) (i:Nat):Bool:=
 cR all i&& !tail.contains i&&Region.free .any all listed i&&(!zq all i||tail.all λj=>listed.getD j true||(jZ all listed i all.size []).contains j)
def ko (xK:TypeId->Bool) (all:Array Oper) (tail:List Nat):Nat->Array Bool->PT
 | 0,listed=>match Region.ready .any all listed with
  | []=>.nil
  | _=>.bad
 | n+1,listed=>
  match Region.ready .any all listed with
  | []=>.nil
  | r::rs=>
   match (r::rs).find? (ox all tail listed) with
   | some i=>.q i (ko xK all tail n (listed.setIfInBounds i true))
   | none=>
    if ((List.range all.size).all λj=>listed.getD j true||tail.contains j||cR all j)=true then
     nO (λi=>ko xK all tail n (listed.setIfInBounds i true)) (r::rs)
    else match (r::rs).filter (gj xK all) with
    | []=>match rs with
      | []=>if (tail.contains r||cR all r)=true then .bad else .g r (ko xK all tail n (listed.setIfInBounds r true))
      | _::_=>.bad
    | x::xs=>
     match (r::rs).filter (λi=> !gj xK all i) with
     | []=>if ((x::xs).all λy=> !tail.contains y&&(Region.ready .any all (kG listed ((x::xs).filter (· !=y)))).all (· ==y))=true then
       .al x (ko xK all tail n (listed.setIfInBounds x true)) else .bad
     | [g]=>if (!(tail.contains g||cR all g)&&((x::xs).all λy=> !tail.contains y)&&(Region.ready .any all (kG listed (x::xs))).all (· ==g))=true then
       .g g (ko xK all tail n (listed.setIfInBounds g true)) else .bad
     | _=>.bad
def Nr (xK:TypeId->Bool) (all:Array Oper) (tail:List Nat) (listed:Array Bool) (r:Nat) (rs:List Nat):Bool:=
 match (r::rs).filter (gj xK all) with
 | []=>match rs with
   | []=>false
   | _::_=>true
 | x::xs=>
  match (r::rs).filter (λi=> !gj xK all i) with
  | []=> !((x::xs).all λy=> !tail.contains y&&(Region.ready .any all (kG listed ((x::xs).filter (· !=y)))).all (· ==y))
  | [g]=> !(!(tail.contains g||cR all g)&&((x::xs).all λy=> !tail.contains y)&&(Region.ready .any all (kG listed (x::xs))).all (· ==g))
  | _=>true
def nP (xK:TypeId->Bool) (all:Array Oper) (tail:List Nat):Nat->Array Bool->PT
 | 0,listed=>match Region.ready .any all listed with
  | []=>.nil
  | _=>.bad
 | n+1,listed=>
  match Region.ready .any all listed with
  | []=>.nil
  | r::rs=>
   match (r::rs).find? (ox all tail listed) with
   | some i=>.q i (nP xK all tail n (listed.setIfInBounds i true))
   | none=>
    if ((List.range all.size).all λj=>listed.getD j true||tail.contains j||cR all j)=true then
     nO (λi=>nP xK all tail n (listed.setIfInBounds i true)) (r::rs)
    else if ((r::rs).all (λi=> !tail.contains i)&&(Nr xK all tail listed r rs||(rs.isEmpty&&(List.filter (gj xK all) [r]).isEmpty&& !cR all r)))=true then
     lN (cR all) (λi=>nP xK all tail n (listed.setIfInBounds i true)) (r::rs)
    else ko xK all tail (n+1) listed
def gN (P:Program) (ak:cK) (all:Array Oper):PT->St->(St->Prop)->Prop
 | .nil,S,K=>K S
 | .bad,_,_=>False
 | .fin,_,_=>True
 | .q i t,S,K=>match all[i]? with
  | some o=>kj P ak all o S λS'=>gN P ak all t S' K
  | none=>False
 | .al i t,S,K=>match all[i]? with
  | some o=>kg P ak o.op S λs bx E=>gN P ak all t (({ S with bx:=bx,E:=E }:St).put o.dst s) K
  | none=>False
 | .g i t,S,K=>match all[i]? with
  | some o=>nB P ak all o S λS'=>gN P ak all t S' K
  | none=>False
 | .br i t rest,S,K=>(match all[i]? with
  | some o=>kj P ak all o S λS'=>gN P ak all t S' K
  | none=>False)/\gN P ak all rest S K
 | .Nq i t rest,S,K=>(match all[i]? with
  | some o=>nB P ak all o S λS'=>gN P ak all t S' K
  | none=>False)/\gN P ak all rest S K
def jo (P:Program) (T:TypeId):Bool:=match P.info? T with
 | some i=>match i.zero with
  | some z=>gH (.raw z)
  | none=>false
 | none=>false
def jH (P:Program) (all:Array Oper):List Nat:=(List.range all.size).filterMap λi=>if gj (jo P) all i then (all[i]?).bind (·.dst) else none
def CY (P:Program) (ak:cK) (all:Array Oper) (tail:List Nat) (n:Nat) (listed:Array Bool) (S:St) (K:St->Prop):Prop:=
 gN P ak all (nP (jo P) all tail n listed) (S.forget (jH P all)) K
theorem nD {P:Program} {ak:cK} {all:Array Oper} {f:Nat->PT} {S:St} {K:St->Prop}:∀ {l:List Nat},gN P ak all (nO f l) S K->∀ i∈l,∃ o,all[i]? =some o/\kj P ak all o S λS'=>gN P ak all (f i) S' K
 | [],_,i,hi=>by simp at hi
 | [j],h,i,hi=>by
  simp only [List.mem_singleton] at hi;subst hi;simp only [nO,gN] at h;split at h
  ·rename_i o ho;exact ⟨o,ho,h⟩
  ·exact h.elim
 | j::k::l,h,i,hi=>by
  simp only [nO,gN] at h;obtain ⟨h1,h2⟩:=h;rcases List.mem_cons.1 hi with rfl|hi
  ·split at h1
   ·rename_i o ho;exact ⟨o,ho,h1⟩
   ·exact h1.elim
  ·exact nD (l:=k::l) h2 i hi
theorem lW {P:Program} {ak:cK} {all:Array Oper} {D:Nat->Bool} {f:Nat->PT} {S:St} {K:St->Prop}:∀ {l:List Nat},gN P ak all (lN D f l) S K->∀ i∈l,∃ o,all[i]? =some o/\
  (D i=true->kj P ak all o S λS'=>gN P ak all (f i) S' K)/\(D i=false->nB P ak all o S λS'=>gN P ak all (f i) S' K)
 | [],_,i,hi=>by simp at hi
 | [j],h,i,hi=>by
  simp only [List.mem_singleton] at hi;subst hi;simp only [lN] at h
  cases hD:D i with
  | true=>
   rw [hD] at h;simp only [gN] at h;split at h
   ·rename_i o ho;exact ⟨o,ho,λ_=>h,λe=>(by cases e)⟩
   ·exact h.elim
  | false=>
   rw [hD] at h;simp only [gN] at h;split at h
   ·rename_i o ho;exact ⟨o,ho,λe=>(by cases e),λ_=>h⟩
   ·exact h.elim
 | j::k::l,h,i,hi=>by
  simp only [lN] at h
  cases hD:D j with
  | true=>
   rw [hD] at h;simp only [gN] at h;obtain ⟨h1,h2⟩:=h;rcases List.mem_cons.1 hi with rfl|hi
   ·split at h1
    ·rename_i o ho;exact ⟨o,ho,λ_=>h1,λe=>by rw [hD] at e;cases e⟩
    ·exact h1.elim
   ·exact lW (l:=k::l) h2 i hi
  | false=>
   rw [hD] at h;simp only [gN] at h;obtain ⟨h1,h2⟩:=h;rcases List.mem_cons.1 hi with rfl|hi
   ·split at h1
    ·rename_i o ho;exact ⟨o,ho,λe=>(by rw [hD] at e;cases e),λ_=>h1⟩
    ·exact h1.elim
   ·exact lW (l:=k::l) h2 i hi
def F7 (eo:Op->Bool) (all:Array Oper):List Nat:=
 let m:=(List.range all.size).filter λi=>((all[i]?).map (eo ·.op)).getD false
 (List.range all.size).filter λi=>m.contains i||m.any λk=>(jZ all (Array.replicate all.size false) k all.size []).contains i
def sub:Code->List Nat->Code
 | c,[]=>c
 | .seq x _,0::p=>sub x p
 | .seq _ y,_::p=>sub y p
 | .cond _ x _,0::p=>sub x p
 | .cond _ _ y,_::p=>sub y p
 | .block _ x,_::p=>sub x p
 | .loop x,_::p=>sub x p
 | _,_=>.skip
def dM:Op->Bool
 | .store .. =>true
 | .call { callee:=.builtin .append,.. }| .call { callee:=.builtin .copy,.. }| .call { callee:=.builtin .clear,.. }=>true
 | _=>false
def fA (P:Program) (body:Code) (R:Exit->Act->World->Prop) (a:Act) (w:World):Prop:=
 ∀ I:Act->World->Prop,(∀ a w,body.wpIn Fence.wide 0 P (Exit.then I R) a w->I a w)->I a w
structure kM (P:Program) (Ω:Option Rc) (n0:Nat) (body:Code) (Q:Ex->St->Prop) (S:St):Prop where
 out:∀ w0 mu (dr:Env) a w,dr.length<=n0->gz w0 mu dr (λS'=>S'=S) a w->mu.om=Ω/\xJ Ω dr->fA P body (lE w0 mu dr Q) a w
structure rE (P:Program) (Ω:Option Rc) (n0:Nat) (c:Code) (Q:Ex->St->Prop) (S:St):Prop where
 out:∀ w0 mu (dr:Env) a w,dr.length<=n0->gz w0 mu dr (λS'=>S'=S) a w->mu.om=Ω/\xJ Ω dr->c.wpIn Fence.wide 0 P (lE w0 mu dr Q) a w
def assigned:Code->List Nat
 | .region _ ops _=>ops.toList.filterMap (·.dst)
 | .seq x y=>assigned x++assigned y
 | .cond _ x y=>assigned x++assigned y
 | .block _ x=>assigned x
 | .loop x=>assigned x
 | _=>[]
structure Bn where
 /-- how often a loop is unrolled -/
 cq:Nat
 /-- the slots that a loop's rounds hand on -/
 carry:List Nat
 /-- the boxes that were there when the function was entered -/
 base:Nat:=0
 /-- the regions at which a text is cut -/
 vq:List Nat:=[]
 /-- the record of the loop whose rounds a call of yield runs -/
 om:Option Rc:=none
 /-- the text of a round -/
 vJ:Bool:=false
def zu:Code->Option Nat
 | .region id _ _=>some id
 | .seq x _=>zu x
 | .block _ x=>zu x
 | .loop x=>zu x
 | _=>none
def cutAt (o:Bn) (y:Code):Bool:=
 match o.vq with
 | []=>false
 | l=>match zu y with
  | some id=>l.contains id
  | none=>false
def JL (o:Bn) (x:Code):Bool:=o.om.isSome&& !o.vJ&&cutAt o x
def pY (o:Bn) (body:Code):List Nat:=(assigned body).filter λd=> !o.carry.contains d
structure Cx where
 P:Program
 /-- calls of these functions are walked in place -/
 inl:FuncId->Bool
 jN:FuncId->List SV->Mem->(SV->Mem->Prop)->Prop
 /-- functions that are handed boxes, and their contracts -/
 kH:FuncId->Bool
 eY:cK
 opt:Bn
 /-- which operations may change memory that is read beside them -/
 eo:Op->Bool
 /-- the round of a loop over a function -/
 JM:List SV->List aR->Mem->KT->Prop:=λ_ _ _ _=>False
def CZ (Ay:(Ex->St->Prop)->St->Prop) (fb:(Ex->St->Prop)->St->Prop):Nat->(Ex->St->Prop)->St->Prop
 | 0,Q,S=>fb Q S
 | n+1,Q,S=>Ay (λe S'=>match e with | .normal=>CZ Ay fb n Q S'| .exit id=>Q (.exit id) S'| .ret=>Q .ret S') S
def oy (ops:Array Oper):Bool:=ops.toList.all λo=>match o.op with
 | .defer _=>false
 | _=>true
def gP (P:Program) (ak:cK) (inl:Op->Bool) (un:Bn):Code->(Ex->St->Prop)->St->Prop
 | .skip,Q,S=>Q .normal S
 | .region _ ops false,Q,S=>Ed P ak ops ops.toList S (Q .normal)
 | .region _ ops true,Q,S=>bif un.vJ&& !oy ops then False else if Region.noSelect ops then CY P ak ops (F7 inl ops) ops.size (Array.replicate ops.size false) S (Q .normal) else False
 | .seq x y,Q,S=>gP P ak inl un x (λe S'=>match e with | .normal=>(bif cutAt un y&& !un.vJ then rE P un.om un.base y Q S' else gP P ak inl un y Q S')| .exit id=>Q (.exit id) S'| .ret=>Q .ret S') S
 | .cond c x y,Q,S=>match jh S c with
  | some (.raw (.bool b))=>cond b (bif JL un x then rE P un.om un.base x Q S else gP P ak inl un x Q S) (gP P ak inl un y Q S)
  | _=>False
 | .block id body,Q,S=>gP P ak inl un body (λe S'=>match e with | .normal=>Q .normal S'| .exit i=>if i=id then Q .normal S' else Q (.exit i) S'| .ret=>Q .ret S') S
 | .loop body,Q,S=>bif un.vJ then False else CZ (gP P ak inl un body) (λQ S=>kM P un.om un.base body Q (S.forget (pY un body))) un.cq Q S
 | .exit id,Q,S=>Q (.exit id) S
 | .ret,Q,S=>Q .ret S
 | .rangeFunc g ps assign body,Q,S=>bif un.vJ then False else rE P un.om un.base (.rangeFunc g ps assign body) Q S
 | _,_,_=>False
def jn (P:Program) (ak:cK) (inl:Op->Bool) (un:Bn):Code->List Nat->(Ex->St->Prop)->(Ex->St->Prop)
 | _,[],Q=>Q
 | .seq x y,0::p,Q=>jn P ak inl un x p (λe S'=>match e with | .normal=>(bif cutAt un y&& !un.vJ then rE P un.om un.base y Q S' else gP P ak inl un y Q S')| .exit id=>Q (.exit id) S'| .ret=>Q .ret S')
 | .seq _ y,_::p,Q=>jn P ak inl un y p Q
 | .cond _ x _,0::p,Q=>jn P ak inl un x p Q
 | .cond _ _ y,_::p,Q=>jn P ak inl un y p Q
 | .block id x,_::p,Q=>jn P ak inl un x p (λe S'=>match e with | .normal=>Q .normal S'| .exit i=>if i=id then Q .normal S' else Q (.exit i) S'| .ret=>Q .ret S')
 | .loop x,_::p,Q=>jn P ak inl un x p (λe S'=>match e with | .normal=>kM P un.om un.base x Q (S'.forget (pY un x))| .exit id=>Q (.exit id) S'| .ret=>Q .ret S')
 | _,_,Q=>Q
def jq (fn:Func):Code:=match fn.body with |some c=>c|none=>.skip
def BO (P:Program) (S:St):ResultVar->Option SV
 | .tmp t=>jh S (.tmp t)
 | .cell t T=>match jh S (.tmp t) with
  | some (.loc b off)=>match S.bx[b]? with
   | some y=>iB P T y.cells off
   | none=>none
  | _=>none
def qF (P:Program) (S:St):List ResultVar->Option (List SV)
 | []=>some []
 | x::l=>match BO P S x,qF P S l with
  | some s,some ss=>some (s::ss)
  | _,_=>none
def Ee (P:Program) (fn:Func) (S:St) (K:KT):Prop:=
 match qF P S fn.results.toList with
 | some [s]=>K s S.bx S.E
 | some ss=>K (.bB ss) S.bx S.E
 | none=>False
def C0 (P:Program) (fn:Func) (K:KT):Ex->St->Prop
 | .normal,S| .ret,S=>Ee P fn S K
 | .exit _,_=>False
def wy (P:Program) (ak:cK) (inl:Op->Bool) (un:Bn) (fn:Func) (args:List SV) (bx:List aR) (E:Mem) (K:KT):Prop:=
 match fn.body with
 | some c=>if (args.length<=fn.ntmps/\(un.om.isNone||fn.results.toList.isEmpty)=true) then gP P ak inl { un with base:=bx.length,vJ:=false } c (C0 P fn K) { fr:=args.map some++List.replicate (fn.ntmps-args.length) none,bx:=bx,E:=E } else False
 | none=>False
def Ef (C:Cx):cK:=λf args bx E K=>
 if f=LG then (match C.opt.om with |none=>False|some _=>C.JM args bx E K) else if C.kH f=true then C.eY f args bx E K else BD 16 args bx E λargs' bA E'=>C.jN f args' E' λs mN=>K s bA mN
def Cx.FD (C:Cx):Cx:=match C.opt.om with
 | none=>C
 | some _=>{ C with opt:={ C.opt with om:=none } }
def rf (C:Cx):Nat->cK
 | 0=>Ef C
 | n+1=>λf args bx E K=>
  if (C.inl f&&f !=LG)=true then
   match C.P.funcs[f]? with
   | some fn=>wy C.P (rf C.FD n) C.eo { C.opt with vq:=[],om:=none } fn args bx E K
   | none=>False
  else Ef C f args bx E K
end Go.Sx
