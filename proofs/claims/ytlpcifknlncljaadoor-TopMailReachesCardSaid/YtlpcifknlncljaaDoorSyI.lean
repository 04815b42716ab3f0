/- The symbolic evaluator: a part of it; generic over programs. Conditions: none. -/
import Derived.Test.YtlpcifknlncljaaDoorSyMP
namespace Go.Sx
open Go.RowKit (Below)
section
variable {ro:Option Nat} {Ω:Option Rc} {P:Program} {callW:CallT} {S:St} {a:Act} {w w0:World} {mu:Fm} {ρ:Env} {K:KT} {next:Act->World->Prop} {Q:Exit->Act->World->Prop}
theorem zeros_den {e:TypeId} {n:Nat} {zs:List SV} (h:zerosW P e n=some zs):∃ i z,P.info? e=some i/\i.zero=some z/\z.cells.size=i.size/\
  SV.denL ρ zs=some ((Array.range (n*i.size)).map (z.cells[· % z.cells.size]!)).toList:=by
 unfold zerosW at h
 split at h
 case h_2=>cases h
 rename_i i hi
 split at h
 case h_2=>cases h
 rename_i z hz
 split at h
 case isFalse=>cases h
 rename_i hc
 obtain ⟨h1,h2⟩:=hc
 simp only [Option.some.injEq] at h;subst h
 have hd:=svCells_den (ρ:=ρ) h1 (v:=z) rfl
 have hl:=denL_length hd
 refine ⟨i,z,hi,hz,by rw [← Array.length_toList,hl,h2],?_⟩
 have hsz:z.cells.size=i.size:=by rw [← Array.length_toList,hl,h2]
 have :∀ n,SV.denL ρ (List.replicate n (svCells (.raw z))).flatten=some (List.replicate n z.cells.toList).flatten:=by
  intro n
  induction n with
  | zero=>simp [SV.denL]
  | succ n ih=>simp only [List.replicate_succ,List.flatten_cons];exact denL_append hd ih
 rw [this n]
 congr 1
 apply List.ext_getElem?
 intro k
 rw [← hsz]
 clear this hl h2 hsz hz hi h1 hd
 generalize z.cells=c
 have key:∀ n k:Nat,(List.replicate n c.toList).flatten[k]? =if k<n*c.size then some (c[k % c.size]!) else none:=by
  intro n
  induction n with
  | zero=>intro k;simp
  | succ n ih=>
   intro k
   simp only [List.replicate_succ,List.flatten_cons]
   by_cases hk:k<c.size
   ·rw [List.getElem?_append_left (by simpa using hk),if_pos (by rw [Nat.add_mul];omega),Nat.mod_eq_of_lt hk]
    simp [hk,getElem!_pos]
   ·rw [List.getElem?_append_right (by simpa using Nat.le_of_not_lt hk),ih]
    simp only [Array.length_toList]
    have h1:(k-c.size<n*c.size)↔(k<(n+1)*c.size):=by rw [Nat.add_mul];omega
    simp only [h1]
    have h2:(k-c.size) % c.size=k % c.size:=by
     have:=Nat.mod_eq_sub_mod (Nat.le_of_not_lt hk)
     omega
    rw [h2]
 rw [key n k]
 simp only [Array.toList_map,Array.toList_range,List.getElem?_map]
 by_cases hk:k<n*c.size
 ·simp [hk]
 ·simp [hk]
theorem run_buildSlice {T e:TypeId} {n m:Nat} {zs cs:List SV} {ss:List (Nat×SV)} {ps:Array (Nat×Value)} (w:World) (hu:P.underlying T=some (.slice e)) (hm:sizeW P e=some m) (hzs:zerosW P e n=some zs)
  (hle:n*m<=16777216) (hp:PartsDen ρ ss ps.toList) (hcs:fillW (fun k=>some (k*m,m)) zs ss=some cs):
  ∃ ws,SV.denL ρ cs=some ws/\(Instr.buildSlice T n ps).run P w= .ok (.slice (some ⟨w.heap.size,0,none⟩) n n) (w.alloc (.cells ws.toArray e)):=by
 obtain ⟨i,z,hi,hz,hsz,hzd⟩:=zeros_den (ρ:=ρ) hzs
 have hmi:m=i.size:=by simp only [sizeW,hi,Option.map_some,Option.some.injEq] at hm;exact hm.symm
 subst hmi
 obtain ⟨ws,h1,h2⟩:=fill_den hp hzd hcs
 refine ⟨ws,h1,?_⟩
 simp only [Array.toArray_toList] at h2
 unfold Instr.buildSlice
 simp only [Sem.run_bind,run_underlying hu,Result.andThen_ok,run_sizeOf' hi]
 rw [if_neg (show ¬ n*i.size>2 ^ 24 by omega)]
 by_cases h0:n*i.size=0
 ·rw [if_pos h0]
  have hr:Array.map (fun x=>(#[]:Array Value)[x % (#[]:Array Value).size]!) (Array.range (n*i.size))=Array.map (fun x=>z.cells[x % z.cells.size]!) (Array.range (n*i.size)):=by simp [h0]
  simp only [Sem.run_bind,Sem.run_pure,Result.andThen_ok,hr,h2,newRow,run_newObj]
  rfl
 ·rw [if_neg h0]
  simp only [Sem.run_bind,run_zeroValue' hi hz,Result.andThen_ok,Sem.run_pure,h2,newRow,run_newObj]
  rfl
theorem run_method {T:TypeId} {name:String} {g:FuncId} (h:methodW P T name=some g) (x:Value) (d:Nat) (w:World):(method (d+1) T x name).run P w= .ok (g,x) w:=by
 unfold methodW at h
 split at h
 case h_2=>cases h
 rename_i i hi
 split at h
 case h_2=>cases h
 rename_i m hm
 have hp:∀ e,P.underlying T=some (.pointer e)->e=e:=fun _ _=>rfl
 split at h
 ·rename_i f e hpath hf hu
  simp only [Option.some.injEq] at h;subst h
  unfold method
  simp only [Sem.run_bind,run_typeInfo' hi,Result.andThen_ok,hm,hpath,follow,Sem.run_pure,hf]
  unfold receiverAt
  simp only [Sem.run_bind,run_underlying hu,Result.andThen_ok,Place.get,Sem.run_pure]
 ·cases h
 ·rename_i f u hne hpath hf hu
  simp only [Option.some.injEq] at h;subst h
  unfold method
  simp only [Sem.run_bind,run_typeInfo' hi,Result.andThen_ok,hm,hpath,follow,Sem.run_pure,hf]
  unfold receiverAt
  simp only [Sem.run_bind,run_underlying hu,Result.andThen_ok]
  cases u<;>first|(simp only [Place.get,Sem.run_pure,Result.andThen_ok];done)|skip
 ·cases h
theorem mth_den {ρ:Env} {n:String} {s:SV} {T:TypeId} {v:Value} (h:(SV.mth n (.ifc T s)).den ρ=some v):∃ u,v= .func (.method n) #[.iface T u] #[]:=by
 simp only [SV.den,Option.map_eq_some_iff] at h
 obtain ⟨_,⟨u,_,rfl⟩,rfl⟩:=h
 exact ⟨u,rfl⟩
theorem mth_of {ρ:Env} {n:String} {s:SV} {f:Operand->Value} {first caps:Array Operand} (h:SV.denL ρ [s]=some (first.toList.map f)) (hl:caps.toList=[]):(SV.mth n s).den ρ=some (.func (.method n) (first.map f) (caps.map f)):=by
 simp only [SV.denL] at h
 have hc:caps= #[]:=by rw [← Array.toList_inj];exact hl
 subst hc
 split at h
 ·rename_i v vs h1 h2
  cases h2
  simp only [SV.den,h1,Option.map_some]
  simp only [Option.some.injEq] at h
  have :first.map f= #[v]:=by rw [← Array.toList_inj,Array.toList_map,← h]
  rw [this];simp
 ·cases h
theorem run_nilAhead {T e:TypeId} {name:String} {g:FuncId} (h:methodW P T name=some g) (hu:P.underlying T=some (.pointer e)) (x:Value) (d:Nat) (hd:0<d) (w:World):(nilAhead d T x name).run P w= .ok (some false) w:=by
 unfold methodW at h
 split at h
 case h_2=>cases h
 rename_i i hi
 split at h
 case h_2=>cases h
 rename_i m hm
 obtain ⟨d,rfl⟩:∃ k,d=k+1:=⟨d-1,by omega⟩
 split at h
 ·rename_i f e' hpath hf hu'
  unfold nilAhead
  simp only [Sem.run_bind,run_typeInfo' hi,Result.andThen_ok,hm,hpath,followBlind,Sem.run_pure,hf]
 ·cases h
 ·rename_i f u hne hpath hf hu'
  rw [hu] at hu'
  cases hu'
  exact absurd rfl (hne _)
 ·cases h
theorem callsW {n:Nat} {f:FuncId} {args:Array Value} {R:Ending->World->Prop} (h:Calls P f args w R):CallsIn (fW ro) n P f args w R:=by
 cases ro with
 | none=>exact callsIn_wide.2 h
 | some l=>exact CallsIn.inRound l (callsIn_wide.2 h)
theorem roundW {n:Nat} {l:Nat} {f:FuncId} {tmps:Array Value} {assign body:Code} {R:Ending->World->Prop} (h:RoundIn Fence.wide n P l f tmps assign body w R):RoundIn (fW ro) n P l f tmps assign body w R:=h
set_option maxHeartbeats 4000000 in
theorem opW_sound (hcall:CallOK Ω P callW) (hΩ:okR Ω w0 mu ρ) {o:Oper} (hR:Rel w0 mu S.bx S.E ρ w) (hF:FrRel ρ S.fr a.tmps) (h:opW P callW o.op S K) (hk:NextOK o.op S o.dst a ρ w0 mu K next):
  o.uponIn (fW ro) 0 P a next Q ((execOp a.eval o).run P w):=by
 obtain ⟨dst,op,type,pos,after,guard⟩:=o
 have done:∀ {s:SV} {x:Value},s.den ρ=some x->K s S.bx S.E->next (a.put dst x) w:=fun {s x} h1 h2=>hk _ _ _ _ ρ w (List.prefix_refl _) h1 hR (fun _=>⟨List.prefix_refl _,Mem.le_refl _⟩) h2
 cases op with
 | move x=>
  simp only [opW] at h
  split at h
  ·rename_i s hs;exact done (opd_den hF hs) h
  ·exact h.elim
 | assign x=>
  simp only [opW] at h
  split at h
  ·rename_i s hs;exact done (opd_den hF hs) h
  ·exact h.elim
 | pick c x y=>
  simp only [opW] at h
  have hb:∀ {t:Bool},opd S c=some (.raw (.bool t))->a.eval c= .bool t:=fun hc=>by have:=opd_den hF hc;simpa [SV.den] using this.symm
  split at h
  ·rename_i t b1 b2 hc h1 h2
   have e1:a.eval x= .bool b1:=by have:=opd_den hF h1;simpa [SV.den] using this.symm
   have e2:a.eval y= .bool b2:=by have:=opd_den hF h2;simpa [SV.den] using this.symm
   have :(execOp a.eval ⟨dst,.pick c x y,type,pos,after,guard⟩).run P w= .ok (.value (.bool (cond t b1 b2))) w:=by
    cases t<;>simp [execOp,hb hc,asBool,e1,e2]
   rw [this];exact done (s:=.raw (.bool (cond t b1 b2))) rfl h
  ·rename_i t s1 s2 _ hc h1 h2
   cases t with
   | true=>
    have :(execOp a.eval ⟨dst,.pick c x y,type,pos,after,guard⟩).run P w= .ok (.value (a.eval x)) w:=by simp [execOp,hb hc,asBool]
    rw [this];exact done (opd_den hF h1) h
   | false=>
    have :(execOp a.eval ⟨dst,.pick c x y,type,pos,after,guard⟩).run P w= .ok (.value (a.eval y)) w:=by simp [execOp,hb hc,asBool]
    rw [this];exact done (opd_den hF h2) h
  ·rename_i s1 hc h1 h2
   have :(execOp a.eval ⟨dst,.pick c x y,type,pos,after,guard⟩).run P w= .ok (.value (a.eval x)) w:=by simp [execOp,hb hc,asBool]
   rw [this];exact done (opd_den hF h1) h
  ·rename_i s1 hc h1 h2
   have :(execOp a.eval ⟨dst,.pick c x y,type,pos,after,guard⟩).run P w= .ok (.value (a.eval y)) w:=by simp [execOp,hb hc,asBool]
   rw [this];exact done (opd_den hF h2) h
  ·exact h.elim
 | alloc T=>
  simp only [opW] at h
  split at h
  case h_2=>exact h.elim
  rename_i i hi
  split at h
  case h_2=>exact h.elim
  rename_i z hz
  split at h
  case isFalse=>exact h.elim
  rename_i hone
  refine allocOp_sound hR hk hone rfl ?_ h
  show Sem.run P (do pure (Next.value (← Instr.alloc T true (.tuple #[])))) w=_
  simp only [Instr.alloc,Sem.run_bind,run_zeroValue' hi hz,Result.andThen_ok,run_newVar',Sem.run_pure]
 | box T x=>
  simp only [opW] at h
  split at h
  case h_2=>exact h.elim
  rename_i s hs
  split at h
  case isFalse=>exact h.elim
  rename_i hone
  refine allocOp_sound hR hk hone (opd_den hF hs) ?_ h
  show Sem.run P (do pure (Next.value (← Instr.box T (a.eval x)))) w=_
  simp only [Instr.box,Sem.run_bind,Result.andThen_ok,run_newVar',Sem.run_pure]
 | build T ps=>
  simp only [opW] at h
  have hp:∀ {ss},parts S ps.toList=some ss->PartsDen ρ ss (ps.map fun (i,x)=>(i,a.eval x)).toList:=fun hs=>by
   simpa using parts_den hF hs
  split at h
  ·rename_i i fs ss hi hu hs
   split at h
   case h_2=>exact h.elim
   rename_i z places hz hpl
   split at h
   case h_2=>exact h.elim
   rename_i zs hzs
   split at h
   case h_2=>exact h.elim
   rename_i cs hcs
   obtain ⟨hz1,rfl⟩:=asCells_raw hzs
   obtain ⟨ws,h1,h2⟩:=fill_den (hp hs) (denL_raw (ρ:=ρ) z.cells.toList) hcs
   refine upon_val (s:=Instr.build T (ps.map fun (i,x)=>(i,a.eval x))) rfl (run_build w T _ ws.toArray ?_) (done (s:=.agg cs) (by simp only [SV.den,h1,Option.map_some]) h)
   simp only [Program.built,hi,hu,hz,hpl]
   simpa using h2
  ·rename_i i n e ss hi hu hs
   split at h
   case h_2=>exact h.elim
   rename_i z ie hz hie
   split at h
   case h_2=>exact h.elim
   rename_i zs hzs
   split at h
   case h_2=>exact h.elim
   rename_i cs hcs
   obtain ⟨hz1,rfl⟩:=asCells_raw hzs
   obtain ⟨ws,h1,h2⟩:=fill_den (hp hs) (denL_raw (ρ:=ρ) z.cells.toList) hcs
   refine upon_val (s:=Instr.build T (ps.map fun (i,x)=>(i,a.eval x))) rfl (run_build w T _ ws.toArray ?_) (done (s:=.agg cs) (by simp only [SV.den,h1,Option.map_some]) h)
   simp only [Program.built,hi,hu,hz,hie]
   simpa using h2
  ·exact h.elim
 | buildSlice T n ps=>
  simp only [opW] at h
  split at h
  case h_2=>exact h.elim
  rename_i e ss hu hs
  split at h
  case h_2=>exact h.elim
  rename_i m zs hm hzs
  split at h
  case isFalse=>exact h.elim
  rename_i hle
  split at h
  case h_2=>exact h.elim
  rename_i cs hcs
  have hp:PartsDen ρ ss (ps.map fun (i,x)=>(i,a.eval x)).toList:=by
   have:=parts_den hF hs
   rw [Array.toList_map];exact this
  obtain ⟨ws,h1,h2⟩:=run_buildSlice (P:=P) (ρ:=ρ) w hu hm hzs hle hp hcs
  have hal:=hR.alloc e (.lst cs) ws [] cs.length h1 (by simpa using denL_length h1)
  simp only [List.append_nil] at hal
  refine upon_val (s:=Instr.buildSlice T n (ps.map fun (i,x)=>(i,a.eval x))) rfl h2 (hk (.slc S.bx.length 0 n n) _ _ _ _ _ (List.prefix_append _ _) ?_ hal (fun _=>⟨List.prefix_append _ _,Mem.le_refl _⟩) h)
  simp only [SV.den,slcDen,← hR.len,List.getElem?_append_right (Nat.le_refl _),Nat.sub_self,List.getElem?_cons_zero]
  rfl
 | load T x=>
  simp only [opW] at h
  split at h
  ·rename_i b off hs
   split at h
   case h_2=>exact h.elim
   rename_i y hy
   split at h
   ·rename_i cells hc
    split at h
    case h_2=>exact h.elim
    rename_i r hr
    obtain ⟨v,h1,h2⟩:=load_sound (P:=P) hR hy (r:=r) (by simpa [Box.cells,hc,Row.cells] using hr) (by simpa [SV.den] using opd_den hF hs)
    exact upon_val (s:=Instr.loadAt T (a.eval x)) rfl h2 (done h1 h)
   ·rename_i us hc
    obtain ⟨r,hl,h⟩:=loadRel_elim h
    obtain ⟨v,h1,h2⟩:=load_sound (P:=P) hR hy (r:=r) (by simpa [Box.cells,hc,Row.cells,LoadV] using hl) (by simpa [SV.den] using opd_den hF hs)
    exact upon_val (s:=Instr.loadAt T (a.eval x)) rfl h2 (done h1 h)
  ·rename_i v off hs
   obtain ⟨r,hl,h⟩:=loadRel_elim h
   obtain ⟨v,h1,h2⟩:=loadE_sound (P:=P) hR hl (by simpa [SV.den] using opd_den hF hs)
   exact upon_val (s:=Instr.loadAt T (a.eval x)) rfl h2 (done h1 h)
  ·exact h.elim
 | store T x y=>
  simp only [opW] at h
  split at h
  case h_2=>exact h.elim
  rename_i b off s hx hy
  obtain ⟨w',bx',h1,h2,h⟩:=store_sound hR h (opd_den hF hy) (by simpa [SV.den] using opd_den hF hx)
  have :(execOp a.eval ⟨dst,.store T x y,type,pos,after,guard⟩).run P w= .ok .skip w':=by
   show Sem.run P (do Instr.storeAt T (a.eval x) (a.eval y);pure Next.skip) w=_
   simp only [Sem.run_bind,h1,Result.andThen_ok,Sem.run_pure]
  rw [this]
  exact hk _ _ _ _ ρ w' (List.prefix_refl _) rfl h2 (fun hg=>by simp [growOp] at hg) h
 | nilCheck x=>
  simp only [opW] at h
  split at h
  ·rename_i b off hs
   have hd:=opd_den hF hs
   simp only [SV.den] at hd
   obtain ⟨c,hc,e,hq⟩:=locDen_some hd
   have :(execOp a.eval ⟨dst,.nilCheck x,type,pos,after,guard⟩).run P w= .ok (.value (a.eval x)) w:=by
    simp [execOp,e]
   rw [this];exact done (opd_den hF hs) h
  ·rename_i v off hs
   have hd:=opd_den hF hs
   simp only [SV.den] at hd
   obtain ⟨c,_,_,_,e,_⟩:=rpDen_some hd
   have :(execOp a.eval ⟨dst,.nilCheck x,type,pos,after,guard⟩).run P w= .ok (.value (a.eval x)) w:=by
    simp [execOp,e]
   rw [this];exact done (opd_den hF hs) h
  ·rename_i f m l hs
   have hd:=opd_den hF hs
   have e:∃ us vs,a.eval x= .func (.func f) us vs:=by
    simp only [SV.den] at hd
    split at hd
    ·simp only [Option.some.injEq] at hd;exact ⟨_,_,hd.symm⟩
    ·cases hd
   obtain ⟨us,vs,e⟩:=e
   have :(execOp a.eval ⟨dst,.nilCheck x,type,pos,after,guard⟩).run P w= .ok (.value (a.eval x)) w:=by
    simp [execOp,e]
   rw [this];exact done (opd_den hF hs) h
  ·rename_i t v hs
   have hd:=opd_den hF hs
   simp only [SV.den,Option.map_eq_some_iff] at hd
   obtain ⟨vs,_,e⟩:=hd
   have :(execOp a.eval ⟨dst,.nilCheck x,type,pos,after,guard⟩).run P w= .ok (.value (a.eval x)) w:=by
    simp [execOp,← e]
   rw [this];exact done (opd_den hF hs) h
  ·rename_i n T v hs
   split at h
   case h_2=>exact h.elim
   rename_i g pt hm hu
   have hd:=opd_den hF hs
   obtain ⟨u,e⟩:=mth_den hd
   have :(execOp a.eval ⟨dst,.nilCheck x,type,pos,after,guard⟩).run P w= .ok (.value (a.eval x)) w:=by
    have:=run_nilAhead hm hu u (P.types.size+Made.depth) (by unfold Made.depth;omega) w
    simp [execOp,e,this]
   rw [this];exact done (opd_den hF hs) h
  ·exact h.elim
 | binOp op T x y yt=>
  simp only [opW] at h
  split at h
  case h_2=>exact h.elim
  rename_i s t hs ht
  have es:=opd_den hF hs
  have et:=opd_den hF ht
  have hx:execOp a.eval ⟨dst,.binOp op T x y yt,type,pos,after,guard⟩=(do pure (Next.value (← (do eqGuard op T x y (a.eval x) (a.eval y);binOp op T (a.eval x) (a.eval y))))):=rfl
  have hnil:∀ {r},isNilCmp s t=some r->∀ {e},P.underlying T=some (.pointer e)->r=false/\∀ w,(eqGuard op T x y (a.eval x) (a.eval y)).run P w= .ok () w/\(Op.equal T (a.eval x) (a.eval y)).run P w= .ok false w:=by
   intro r hr e he
   obtain ⟨h1,h2⟩:=nilCmp hr es et
   refine ⟨h1,fun w=>?_⟩
   rcases h2 with ⟨b,e1,e2⟩|⟨b,e1,e2⟩<;>rw [e1,e2]
   ·exact ⟨by cases op<;>rfl,(equalIn_ptr he 9999 b w).1⟩
   ·exact ⟨by cases op<;>rfl,(equalIn_ptr he 9999 b w).2⟩
  split at h
  ·rename_i r e hr he
   obtain ⟨rfl,hw⟩:=hnil hr he
   refine upon_val hx ?_ (done (s:=.raw (.bool false)) rfl h)
   have hb:binOp .eql T (a.eval x) (a.eval y)=(do pure (.bool (← Op.equal T (a.eval x) (a.eval y)))):=by
    obtain ⟨_,h2⟩:=nilCmp hr es et
    rcases h2 with ⟨b,e1,e2⟩|⟨b,e1,e2⟩<;>rw [e1,e2]<;>rfl
   simp only [Sem.run_bind,(hw w).1,Result.andThen_ok,hb,(hw w).2,Sem.run_pure]
  ·rename_i r e hr he
   obtain ⟨rfl,hw⟩:=hnil hr he
   refine upon_val hx ?_ (done (s:=.raw (.bool true)) rfl h)
   have hb:binOp .neq T (a.eval x) (a.eval y)=(do pure (.bool (!(← Op.equal T (a.eval x) (a.eval y))))):=by
    obtain ⟨_,h2⟩:=nilCmp hr es et
    rcases h2 with ⟨b,e1,e2⟩|⟨b,e1,e2⟩<;>rw [e1,e2]<;>rfl
   simp only [Sem.run_bind,(hw w).1,Result.andThen_ok,hb,(hw w).2,Sem.run_pure,Bool.not_false]
  ·rename_i e hr he
   obtain ⟨r,h,g1,_,g2,_⟩:=nilSlcW_sound (P:=P) (ρ:=ρ) he h es et
   refine upon_val hx ?_ (done (s:=.raw (.bool r)) rfl h)
   simp only [Sem.run_bind,g1,Result.andThen_ok,g2]
  ·rename_i e hr he
   obtain ⟨r,h,_,g1,_,g2⟩:=nilSlcW_sound (P:=P) (ρ:=ρ) he h es et
   refine upon_val hx ?_ (done (s:=.raw (.bool !r)) rfl h)
   simp only [Sem.run_bind,g1,Result.andThen_ok,g2]
  ·rename_i e hr he
   split at h
   case isFalse=>exact h.elim
   rename_i hg
   split at h
   case h_2=>exact h.elim
   rename_i r hr
   obtain ⟨g1,_,g2,_⟩:=eqStruct_sound (P:=P) (ρ:=ρ) he hg hr es et
   refine upon_val hx ?_ (done (s:=.raw (.bool r)) rfl h)
   simp only [Sem.run_bind,g1,Result.andThen_ok,g2]
  ·rename_i e hr he
   split at h
   case isFalse=>exact h.elim
   rename_i hg
   split at h
   case h_2=>exact h.elim
   rename_i r hr
   obtain ⟨_,g1,_,g2⟩:=eqStruct_sound (P:=P) (ρ:=ρ) he hg hr es et
   refine upon_val hx ?_ (done (s:=.raw (.bool !r)) rfl h)
   simp only [Sem.run_bind,g1,Result.andThen_ok,g2]
  ·split at h
   case h_2=>exact h.elim
   rename_i v u hv hu
   have e1:=SV.den_of_val ρ s hv
   have e2:=SV.den_of_val ρ t hu
   rw [es] at e1;rw [et] at e2
   cases e1;cases e2
   obtain ⟨_,rfl,h⟩:=binW_pure h
   exact pureOp_sound hR hk hx h
 | unOp op T x=>
  simp only [opW] at h
  split at h
  case h_2=>exact h.elim
  rename_i v hs
  have es:=opd_den hF hs
  simp only [SV.den,Option.some.injEq] at es;subst es
  exact pureOp_sound hR hk rfl h
 | convert src d x=>
  simp only [opW] at h
  split at h
  case h_2=>exact h.elim
  rename_i s hs
  split at h
  case h_2=>
   unfold cnvW at h
   split at h
   case h_2=>exact h.elim
   rename_i b off n cap hvn
   split at h
   case h_2=>exact h.elim
   rename_i e r tot hb
   split at h
   case h_2=>exact h.elim
   rename_i y ys hy
   split at h
   case isFalse=>exact h.elim
   rename_i hsd
   subst hsd
   split at h
   case h_2=>exact h.elim
   rename_i e' he
   split at h
   case h_2=>exact h.elim
   rename_i hu8
   have es:=opd_den hF hs
   simp only [SV.den] at es
   obtain ⟨c,C,hc,h1,h2⟩:=hR.shareF hb (by rw [hy];simp) fun c hc=>slcDen_spot es hc
   rcases slcDen_some es with ⟨c',hc',ev,_⟩|⟨hc',_⟩
   case inr=>rw [hc] at hc';cases hc'
   rw [hc] at hc'
   cases hc'
   have hblk:(c.add off).block=c.block:=by unfold Addr.add;split<;>rfl
   have hsh:w.shape? c.block=some (e,C.size):=by unfold World.shape?;rw [h1]
   have hrun:(convert src src (a.eval x)).run P w= .ok (a.eval x) (w.freeze ⟨c.block,C.size,none⟩ 1):=by
    rw [ev]
    simp [convert,run_underlying he,run_underlying hu8,markStringish,hsh,hblk]
   refine upon_val (s:=convert src src (a.eval x)) rfl hrun (hk _ _ _ _ ρ _ (List.prefix_refl _) ?_ h2 (fun hg=>by simp [growOp] at hg) h)
   simp only [SV.den]
   exact es
  rename_i v hv
  have es:=opd_den hF hs
  rw [SV.den_of_val ρ s hv] at es;cases es
  exact pureOp_sound hR hk rfl h
 | makeInterface T x=>
  simp only [opW] at h
  split at h
  ·exact h.elim
  ·rename_i s d hne hs hu
   have es:=opd_den hF hs
   refine upon_val (s:=Instr.makeInterface T (a.eval x)) (v:=.iface T (a.eval x)) (w':=w) rfl ?_ (done (s:=.ifc T s) (by simp only [SV.den,es,Option.map_some]) h)
   unfold Instr.makeInterface
   simp only [Sem.run_bind,run_underlying hu,Result.andThen_ok]
   cases d<;>first|rfl|exact (hne _ rfl).elim
  ·exact h.elim
 | makeFunc fn first caps=>
  cases fn with
  | func f=>
   simp only [opW] at h
   split at h
   ·rename_i m l hm hl
    have el:=opds_den hF hl
    have em:=opds_den hF hm
    refine upon_val (s:=Instr.makeFunc (.func f) (first.map a.eval) (caps.map a.eval)) (v:=.func (.func f) (first.map a.eval) (caps.map a.eval)) (w':=w) rfl (by simp [Instr.makeFunc]) (done (s:=.clo f m l) ?_ h)
    simp only [SV.den,el,em]
    congr 2<;>(apply Array.ext';simp)
   ·exact h.elim
  | method n=>
   simp only [opW] at h
   split at h
   case h_2=>exact h.elim
   rename_i T v hm hl
   have em:=opds_den hF hm
   refine upon_val (s:=Instr.makeFunc (.method n) (first.map a.eval) (caps.map a.eval)) (v:=.func (.method n) (first.map a.eval) (caps.map a.eval)) (w':=w) rfl (by simp [Instr.makeFunc]) (done (s:=.mth n (.ifc T v)) (mth_of em hl) h)
  | _=>exact h.elim
 | makeSlice T l c=>
  simp only [opW] at h
  split at h
  case h_2=>exact h.elim
  rename_i kl l' kc c' e hl hc hu
  have el:=opd_den hF hl
  have ec:=opd_den hF hc
  simp only [SV.den,Option.some.injEq] at el ec
  obtain ⟨v,w',s',bx',ρ',h1,h2,h3,h4,h5,h6⟩:=makeW_sound (P:=P) (kl:=kl) (kc:=kc) hu h hR
  refine upon_val (s:=Instr.makeSlice T (a.eval l) (a.eval c)) rfl (by rw [← el,← ec];exact h1) (hk _ _ _ _ _ _ h2 h3 h4 (fun _=>⟨h5,Mem.le_refl _⟩) h6)
 | slice T x lo hi mx=>
  simp only [opW] at h
  have hx:execOp a.eval ⟨dst,.slice T x lo hi mx,type,pos,after,guard⟩=(do pure (Next.value (← Instr.sliceAt T (a.eval x) (lo.map a.eval) (hi.map a.eval) (mx.map a.eval)))):=rfl
  split at h
  ·rename_i b off l hh m n e hs h1 h2 h3 hu
   split at h
   case h_2=>exact h.elim
   rename_i z hz
   simp only [sizeW,Option.map_eq_some_iff] at hz
   obtain ⟨i,hi',rfl⟩:=hz
   have es:=opd_den hF hs
   simp only [SV.den] at es
   obtain ⟨c,hc,e1,hq⟩:=locDen_some es
   obtain ⟨hr,hK⟩:=run_sliceBounds (P:=P) hF h1 h2 h3 h false w
   refine upon_val hx (v:=.slice (some (c.add (if toN m n=toN l 0 then off else off+toN l 0*i.size))) (toN hh n-toN l 0) (toN m n-toN l 0)) (w':=w) ?_ (done ?_ hK)
   ·unfold Instr.sliceAt
    simp only [Sem.run_bind,run_underlying hu,Result.andThen_ok,e1,Instr.sureAddr,Sem.run_pure,hr,run_sizeOf' hi']
    congr 3
    split
    ·rfl
    ·rw [add_add hq]
   ·simp only [SV.den,slcDen,hc,if_pos hq]
  ·rename_i b off len cap l hh m e hs h1 h2 h3 hu
   split at h
   case h_2=>exact h.elim
   rename_i z hz
   simp only [sizeW,Option.map_eq_some_iff] at hz
   obtain ⟨i,hi',rfl⟩:=hz
   have es:=opd_den hF hs
   simp only [SV.den] at es
   obtain ⟨hr,hK⟩:=run_sliceBounds (P:=P) hF h1 h2 h3 h true w
   rcases slcDen_some es with ⟨c,hc,e1,hq⟩|⟨hc,rfl,rfl,rfl,e1⟩
   ·refine upon_val hx (v:=.slice (some (c.add (if toN m cap=toN l 0 then off else off+toN l 0*i.size))) (toN hh len-toN l 0) (toN m cap-toN l 0)) (w':=w) ?_ (done ?_ hK)
    ·unfold Instr.sliceAt Instr.slice
     simp only [Sem.run_bind,run_underlying hu,Result.andThen_ok,e1,hr,run_sizeOf' hi',Sem.run_pure]
     congr 2
     split
     ·rfl
     ·simp only [Option.map_some];rw [add_add hq]
    ·simp only [SV.den,slcDen,hc,if_pos hq]
   ·obtain ⟨_,g1,g2,g3,_⟩:=sliceNums_elim h
    have z3:toN m 0=0:=by
     cases m with
     | none=>rfl
     | some j=>have:=g1 j rfl;simp only [toN];omega
    have z2:toN hh 0=0:=by
     cases hh with
     | none=>rfl
     | some j=>have:=g2 j rfl;rw [z3] at this;simp only [toN];omega
    have z1:toN l 0=0:=by
     cases l with
     | none=>rfl
     | some j=>have:=g3 j rfl;rw [z2] at this;simp only [toN];omega
    rw [z1,z2,z3] at hK hr
    refine upon_val hx (v:=.slice none 0 0) (w':=w) ?_ (done ?_ hK)
    ·unfold Instr.sliceAt Instr.slice
     simp only [Sem.run_bind,run_underlying hu,Result.andThen_ok,e1,hr,run_sizeOf' hi',Sem.run_pure]
     rfl
    ·simp only [SV.den,slcDen,hc];rfl
  ·rename_i base len cap l hh m e hs h1 h2 h3 hu
   split at h
   case h_2=>exact h.elim
   rename_i z hz
   simp only [sizeW,Option.map_eq_some_iff] at hz
   obtain ⟨i,hi',rfl⟩:=hz
   have es:=opd_den hF hs
   simp only [SV.den,Option.some.injEq] at es
   obtain ⟨hlc,h⟩:=req_elim h
   obtain ⟨hr,hK⟩:=run_sliceBounds (P:=P) hF h1 h2 h3 h true w
   let v':Value:=.slice (if toN m cap=toN l 0 then base else base.map (·.add (toN l 0*i.size))) (toN hh len-toN l 0) (toN m cap-toN l 0)
   let E':Mem:=fun v cs=>S.E v cs\/∃ cs0,S.E (.slice base len cap) cs0/\v=v'/\cs=(cs0.drop (toN l 0*i.size)).take ((toN hh len-toN l 0)*i.size)
   have hE:=hK (if toN m cap=toN l 0 then base else base.map (·.add (toN l 0*i.size))) E' (fun _ _ g=>.inl g) (fun cs g=>.inr ⟨cs,g,rfl,rfl⟩) (by split<;>simp)
   obtain ⟨_,g1,g2,g3,_⟩:=sliceNums_elim h
   have hle:toN m cap=toN l 0->toN hh len-toN l 0=0:=by
    intro e0
    have a1:toN hh len<=toN m cap\/hh=none:=by
     cases hh with
     | none=>exact .inr rfl
     | some j=>have:=g2 j rfl;left;simp only [toN] at *;omega
    rcases a1 with a1|rfl
    ·omega
    ·cases m with
     | none=>simp only [toN] at *;omega
     | some j=>have h0:=(sliceNums_elim h).1 rfl;cases h0
   have hrow:∀ cs0,S.E (.slice base len cap) cs0->RowAt w v' ((cs0.drop (toN l 0*i.size)).take ((toN hh len-toN l 0)*i.size)):=by
    intro cs0 g
    by_cases e0:toN m cap=toN l 0
    ·left;rw [hle e0];simp
    ·rcases hR.hold _ _ g with rfl|⟨c,len',cap',e2,hsp,hcell⟩
     ·left;simp
     ·cases e2
      right
      refine ⟨c.add (toN l 0*i.size),toN hh len-toN l 0,toN m cap-toN l 0,by simp only [v',if_neg e0,Option.map_some],by rw [add_eq hsp],fun j x hj=>?_⟩
      rw [add_eq hsp]
      simp only
      have hj':j<(toN hh len-toN l 0)*i.size:=by
       rcases Nat.lt_or_ge j ((toN hh len-toN l 0)*i.size) with q|q
       ·exact q
       ·rw [List.getElem?_eq_none (by simp;omega)] at hj;cases hj
      rw [List.getElem?_take_of_lt hj',List.getElem?_drop] at hj
      rw [Nat.add_assoc]
      exact hcell _ _ hj
   have hR':Rel w0 mu S.bx E' ρ w:=hR.addE (fun v cs g=>by
     rcases g with g|⟨cs0,g,rfl,rfl⟩
     ·exact hR.hold v cs g
     ·exact hrow cs0 g) (fun v cs g hne=>by
     rcases g with g|⟨cs0,g,rfl,rfl⟩
     ·exact .inl g
     ·right
      intro j b c b1 b2 b3
      have hne0:cs0≠[]:=by rintro rfl;simp at hne
      have:=(hR.sep j b c b1 b2 b3).2.2 _ _ g hne0
      have e0:¬ toN m cap=toN l 0:=by intro e0;rw [hle e0] at hne;simp at hne
      rcases hR.hold _ _ g with rfl|⟨c',len',cap',e2,hsp,_⟩
      ·exact absurd rfl hne0
      ·cases e2
       simp only [v',if_neg e0,Option.map_some,blk] at this ⊢
       rw [add_eq hsp];exact this) (fun v cs g hne=>by
     rcases g with g|⟨cs0,g,rfl,rfl⟩
     ·exact hR.src _ _ g hne
     ·have hne0:cs0≠[]:=by rintro rfl;simp at hne
      have e0:¬ toN m cap=toN l 0:=by intro e0;rw [hle e0] at hne;simp at hne
      have:=hR.src _ _ g hne0
      rcases hR.hold _ _ g with rfl|⟨c',len',cap',e2,hsp,_⟩
      ·exact absurd rfl hne0
      ·cases e2
       simp only [v',if_neg e0,Option.map_some,blk] at this ⊢
       rw [add_eq hsp];exact this)
   refine upon_val hx (v:=v') (w':=w) ?_ (hk (.raw v') _ _ _ ρ w (List.prefix_refl _) rfl hR' (fun _=>⟨List.prefix_refl _,fun _ _ g=>.inl g⟩) hE)
   unfold Instr.sliceAt Instr.slice
   simp only [Sem.run_bind,run_underlying hu,Result.andThen_ok,← es,hr,run_sizeOf' hi',Sem.run_pure]
   rfl
  ·exact h.elim
 | fieldAddr T x f=>
  simp only [opW] at h
  split at h
  case h_2=>exact h.elim
  rename_i fs hu
  split at h
  case h_2=>exact h.elim
  rename_i fld hf
  have key:∀ {n off:Nat} {c:Addr},sizeW P fld.type=some n->n≠0->c.spot=none->a.eval x= .pointer (some (c.add off))->
    (Instr.fieldAt T (a.eval x) f).run P w= .ok (.pointer (some (c.add (off+fld.offset)))) w:=by
   intro n off c hn h0 hc e1
   simp only [sizeW,Option.map_eq_some_iff] at hn
   obtain ⟨i,hi',rfl⟩:=hn
   unfold Instr.fieldAt
   simp only [Sem.run_bind,run_underlying hu,Result.andThen_ok,hf,e1,Instr.sureAddr,Sem.run_pure]
   unfold fieldPlace
   simp only [Sem.run_bind,run_sizeOf' hi',Result.andThen_ok,if_neg h0,Sem.run_pure,add_add hc]
  split at h
  ·rename_i n b off hn hs
   split at h
   case isTrue=>exact h.elim
   rename_i h0
   have es:=opd_den hF hs
   simp only [SV.den] at es
   obtain ⟨c,hc,e1,hq⟩:=locDen_some es
   exact upon_val (s:=Instr.fieldAt T (a.eval x) f) rfl (key hn h0 hq e1) (done (by simp only [SV.den,locDen,hc,if_pos hq]) h)
  ·rename_i n v off hn hs
   split at h
   case isTrue=>exact h.elim
   rename_i h0
   have es:=opd_den hF hs
   simp only [SV.den] at es
   obtain ⟨c,len,cap,rfl,e1,hsp⟩:=rpDen_some es
   exact upon_val (s:=Instr.fieldAt T (a.eval x) f) rfl (key hn h0 hsp e1) (done (by simp only [SV.den,rpDen,hsp,if_true]) h)
  ·exact h.elim
 | field T x f=>
  simp only [opW] at h
  split at h
  case h_2=>exact h.elim
  rename_i fs hu
  split at h
  case h_2=>exact h.elim
  rename_i fld s hf hs
  split at h
  case h_2=>exact h.elim
  rename_i cs hcs
  split at h
  case h_2=>exact h.elim
  rename_i r hr
  obtain ⟨vs,e1,e2⟩:=asCells_den hcs (opd_den hF hs)
  obtain ⟨v,e3,e4⟩:=run_part (P:=P) (w:=w) hr e2
  refine upon_val (s:=Instr.field T (a.eval x) f) rfl ?_ (done e3 h)
  unfold Instr.field
  simp only [Sem.run_bind,run_underlying hu,Result.andThen_ok,hf,e1,asAgg,Sem.run_pure,e4]
 | extract x i=>
  simp only [opW] at h
  split at h
  ·rename_i l hs
   split at h
   case h_2=>exact h.elim
   rename_i s hl
   have es:=opd_den hF hs
   simp only [SV.den,Option.map_eq_some_iff] at es
   obtain ⟨vs,e1,e2⟩:=es
   obtain ⟨v,e3,e4⟩:=denL_get e1 hl
   refine upon_val (s:=Instr.extract (a.eval x) i) (v:=v) (w':=w) rfl ?_ (done e4 h)
   rw [← e2]
   simp [Instr.extract,e3]
  ·rename_i vs hs
   split at h
   case h_2=>exact h.elim
   rename_i v hl
   have es:=opd_den hF hs
   simp only [SV.den,Option.some.injEq] at es
   refine upon_val (s:=Instr.extract (a.eval x) i) (v:=v) (w':=w) rfl ?_ (done rfl h)
   rw [← es]
   have :vs[i]? =some v:=by simpa using hl
   simp [Instr.extract,this]
  ·exact h.elim
 | typeAssert x T U ok=>
  simp only [opW] at h
  split at h
  case h_2=>exact h.elim
  rename_i s hs
  split at h
  case h_2=>exact h.elim
  rename_i v hv
  have es:=opd_den hF hs
  rw [SV.den_of_val ρ s hv] at es;cases es
  exact pureOp_sound hR hk rfl h
 | indexAddr T x i=>
  simp only [opW] at h
  have hx:execOp a.eval ⟨dst,.indexAddr T x i,type,pos,after,guard⟩=(do pure (Next.value (← Instr.indexAt T (a.eval x) (a.eval i)))):=rfl
  split at h
  ·rename_i b off k n len e hs hi hu
   split at h
   case h_2=>exact h.elim
   rename_i z hz
   obtain ⟨hn,h⟩:=req_elim h
   simp only [sizeW,Option.map_eq_some_iff] at hz
   obtain ⟨inf,hi',rfl⟩:=hz
   have es:=opd_den hF hs
   have ei:=opd_den hF hi
   simp only [SV.den,Option.some.injEq] at es ei
   obtain ⟨c,hc,e1,hq⟩:=locDen_some es
   refine upon_val hx (v:=.pointer (some (c.add (off+n.toNat*inf.size)))) (w':=w) ?_ (done (by simp only [SV.den,locDen,hc,if_pos hq]) h)
   unfold Instr.indexAt
   simp only [← ei,asIntOf,Sem.run_bind,Sem.run_pure,Result.andThen_ok,run_underlying hu,e1,Instr.sureAddr]
   simp only [if_pos hn,Sem.run_bind,run_sizeOf' hi',Result.andThen_ok,Sem.run_pure,add_add hq]
  ·rename_i v off k n len e hs hi hu
   split at h
   case h_2=>exact h.elim
   rename_i z hz
   obtain ⟨hn,h⟩:=req_elim h
   simp only [sizeW,Option.map_eq_some_iff] at hz
   obtain ⟨inf,hi',rfl⟩:=hz
   have es:=opd_den hF hs
   have ei:=opd_den hF hi
   simp only [SV.den,Option.some.injEq] at es ei
   obtain ⟨c,l',cap',rfl,e1,hsp⟩:=rpDen_some es
   refine upon_val hx (v:=.pointer (some (c.add (off+n.toNat*inf.size)))) (w':=w) ?_ (done (by simp only [SV.den,rpDen,hsp,if_true]) h)
   unfold Instr.indexAt
   simp only [← ei,asIntOf,Sem.run_bind,Sem.run_pure,Result.andThen_ok,run_underlying hu,e1,Instr.sureAddr]
   simp only [if_pos hn,Sem.run_bind,run_sizeOf' hi',Result.andThen_ok,Sem.run_pure,add_add hsp]
  ·rename_i b off len cap k n e hs hi hu
   split at h
   case h_2=>exact h.elim
   rename_i z hz
   obtain ⟨hn,h⟩:=req_elim h
   simp only [sizeW,Option.map_eq_some_iff] at hz
   obtain ⟨inf,hi',rfl⟩:=hz
   have es:=opd_den hF hs
   have ei:=opd_den hF hi
   simp only [SV.den,Option.some.injEq] at es ei
   rcases slcDen_some es with ⟨c,hc,e1,hq⟩|⟨hc,rfl,rfl,rfl,e1⟩
   ·refine upon_val hx (v:=.pointer (some (c.add (off+n.toNat*inf.size)))) (w':=w) ?_ (done (by simp only [SV.den,locDen,hc,if_pos hq]) h)
    unfold Instr.indexAt
    simp only [← ei,asIntOf,Sem.run_bind,Sem.run_pure,Result.andThen_ok,run_underlying hu,e1]
    simp only [if_pos hn,Sem.run_bind,run_sizeOf' hi',Result.andThen_ok,Sem.run_pure,add_add hq]
   ·omega
  ·rename_i base len cap k n e hs hi hu
   split at h
   case h_2=>exact h.elim
   rename_i z hz
   obtain ⟨hn,⟨cs,hE,hne⟩,h⟩:=req_elim h
   simp only [sizeW,Option.map_eq_some_iff] at hz
   obtain ⟨inf,hi',rfl⟩:=hz
   have es:=opd_den hF hs
   have ei:=opd_den hF hi
   simp only [SV.den,Option.some.injEq] at es ei
   rcases hR.hold _ _ hE with rfl|⟨c,l',cap',e2,hsp,_⟩
   ·exact absurd rfl hne
   ·cases e2
    refine upon_val hx (v:=.pointer (some (c.add (n.toNat*inf.size)))) (w':=w) ?_ (done (by simp only [SV.den,rpDen,hsp,if_true]) h)
    unfold Instr.indexAt
    simp only [← ei,asIntOf,Sem.run_bind,Sem.run_pure,Result.andThen_ok,run_underlying hu,← es]
    simp only [if_pos hn,Sem.run_bind,run_sizeOf' hi',Result.andThen_ok,Sem.run_pure]
  ·exact h.elim
 | index T x i=>
  simp only [opW] at h
  have hx:execOp a.eval ⟨dst,.index T x i,type,pos,after,guard⟩=(do pure (Next.value (← Instr.index T (a.eval x) (a.eval i)))):=rfl
  split at h
  ·rename_i s k n len e hs hi hu
   split at h
   case h_2=>exact h.elim
   rename_i cs z hcs hz
   obtain ⟨hn,h2⟩:=req_elim h
   clear h
   split at h2
   case h_2=>exact h2.elim
   rename_i r hr
   simp only [sizeW,Option.map_eq_some_iff] at hz
   obtain ⟨inf,hi',rfl⟩:=hz
   have ei:=opd_den hF hi
   simp only [SV.den,Option.some.injEq] at ei
   obtain ⟨vs,e1,e2⟩:=asCells_den hcs (opd_den hF hs)
   obtain ⟨v,e3,e4⟩:=run_part (P:=P) (w:=w) hr e2
   refine upon_val hx ?_ (done e3 h2)
   unfold Instr.index
   simp only [← ei,asIntOf,Sem.run_bind,Sem.run_pure,Result.andThen_ok,run_underlying hu,e1]
   simp only [if_pos hn,Sem.run_bind,run_sizeOf' hi',Result.andThen_ok,e4]
  ·rename_i v j hs hi _
   have es:=opd_den hF hs
   have ei:=opd_den hF hi
   simp only [SV.den,Option.some.injEq] at es ei
   rw [es,ei] at h
   exact pureOp_sound hR hk hx h
  ·exact h.elim
 | call c=>
  simp only [opW] at h
  split at h
  case h_2=>exact h.elim
  rename_i args hargs
  have ea:=opds_den hF hargs
  have eaA:∀ vs:List Value,SV.denL ρ args=some vs->c.args.map a.eval=vs.toArray:=by
   intro vs hv
   rw [ea] at hv;cases hv
   apply Array.ext';simp
  -- a call of a function of the program
  have key:∀ {g:FuncId} {ss:List SV} {vs:List Value},SV.denL ρ ss=some vs->callG callW g ss S.bx S.E K->(growOp (.call c) S=true->(SV.valL ss).isSome=true)->
    (execOp a.eval ⟨dst,.call c,type,pos,after,guard⟩).run P w=(callFunc g vs.toArray).run P w->
    Oper.uponIn (fW ro) 0 P ⟨dst,.call c,type,pos,after,guard⟩ a next Q ((execOp a.eval ⟨dst,.call c,type,pos,after,guard⟩).run P w):=by
   intro g ss vs hv hc hgrow hrun
   unfold callG at hc
   split at hc
   ·exact hc.elim
   rename_i hne
   split at hc
   ·rename_i us hus
    have h0:=hcall g ss [] S.E _ hc
    rw [if_neg hne] at h0
    have hcalls:=frame0 (K:=fun s bx E'=>(S.bx<+:bx/\Mem.le S.E E')/\K s bx E') (bx:=S.bx) hus h0 (fun s bxs' E' x=>⟨⟨List.prefix_append _ _,x.1⟩,x.2⟩)
    rw [hrun]
    rcases hcalls w0 mu ρ w vs hR hv with ⟨henter,hcalls⟩|⟨v,w',hval,he⟩
    ·rw [henter]
     refine ⟨(fun q=>by cases q),callsW (hcalls.mono fun e w' he=>?_)⟩
     obtain ⟨v,s,bx',E',ρ',rfl,h1,h2,h3,h5,h4⟩:=he
     exact hk _ _ _ _ _ _ h1 h2 h3 (fun _=>h5) h4
    ·rw [hval]
     obtain ⟨v',s,bx',E',ρ',q,h1,h2,h3,h5,h4⟩:=he
     cases q
     exact hk _ _ _ _ _ _ h1 h2 h3 (fun _=>h5) h4
   ·rename_i hus
    have h0:=hcall g ss S.bx S.E K hc
    rw [if_neg hne] at h0
    rw [hrun]
    rcases h0 w0 mu ρ w vs hR hv with ⟨henter,hcalls⟩|⟨v,w',hval,he⟩
    ·rw [henter]
     refine ⟨(fun q=>by cases q),callsW (hcalls.mono fun e w' he=>?_)⟩
     obtain ⟨v,s,bx',E',ρ',rfl,h1,h2,h3,h4⟩:=he
     exact hk _ _ _ _ _ _ h1 h2 h3 (fun hg=>by have:=hgrow hg;rw [hus] at this;cases this) h4
    ·rw [hval]
     obtain ⟨v',s,bx',E',ρ',q,h1,h2,h3,h4⟩:=he
     cases q
     exact hk _ _ _ _ _ _ h1 h2 h3 (fun hg=>by have:=hgrow hg;rw [hus] at this;cases this) h4
  split at h
  ·rename_i f hf
   split at h
   case h_3=>exact h.elim
   case h_2=>
    rename_i l m b hg
    have eg:=opd_den hF hg
    simp only [SV.den,Option.some.injEq] at eg
    have h0:=hcall YID _ S.bx S.E K h
    rw [if_pos rfl] at h0
    obtain ⟨l',m',b',rest,e1,h0⟩:=h0
    simp only [List.cons.injEq,SV.raw.injEq,Value.func.injEq,Fn.yield.injEq] at e1
    obtain ⟨⟨rfl,rfl,rfl⟩,rfl⟩:=e1
    obtain ⟨fn',tmps,assign,body,hy,hround⟩:=h0 w0 mu ρ w _ hΩ hR ea
    have hrun:(execOp a.eval ⟨dst,.call c,type,pos,after,guard⟩).run P w= .ok (.round l fn' tmps assign body) w:=by
     rw [← hy]
     show Sem.run P (do let d ← resolve a.eval c type;invoke d.target d.args) w=_
     have hargs':c.args.map a.eval=(c.args.toList.map a.eval).toArray:=by apply Array.ext';simp
     simp only [resolve,hf,← eg,Deferred.ofValue,Sem.run_bind,Sem.run_pure,Result.andThen_ok,invoke,hargs']
    rw [hrun]
    refine ⟨(fun q=>by cases q),roundW (hround.mono fun e w' he=>?_)⟩
    obtain ⟨v,s,bx',E',ρ',rfl,h1,h2,h3,h4⟩:=he
    exact hk _ _ _ _ _ _ h1 h2 h3 (fun hg2=>by simp [growOp,hargs,hf,hg] at hg2) h4
   rename_i g first caps hg
   have eg:=opd_den hF hg
   have eg':∃ us vs,SV.denL ρ first=some us/\SV.denL ρ caps=some vs/\.func (.func g) us.toArray vs.toArray=a.eval f:=by
    simp only [SV.den] at eg
    split at eg
    ·rename_i us vs e1 e2
     simp only [Option.some.injEq] at eg;exact ⟨us,vs,e1,e2,eg⟩
    ·cases eg
   obtain ⟨fv,cv,e0,e1,e2⟩:=eg'
   refine key (denL_append (denL_append e0 ea) e1) h (fun hg2=>by simpa [growOp,hargs,hf,hg] using hg2) ?_
   show Sem.run P (do let d ← resolve a.eval c type;invoke d.target d.args) w=_
   have hargs':c.args.map a.eval=(c.args.toList.map a.eval).toArray:=by apply Array.ext';simp
   simp only [resolve,hf,← e2,Deferred.ofValue,Sem.run_bind,Sem.run_pure,Result.andThen_ok,invoke,hargs']
   simp
  ·rename_i r name hr
   split at h
   case h_2=>exact h.elim
   rename_i T v hv
   split at h
   case h_2=>exact h.elim
   rename_i g hg
   have er:=opd_den hF hv
   simp only [SV.den,Option.map_eq_some_iff] at er
   obtain ⟨x,e1,e2⟩:=er
   refine key (vs:=x::c.args.toList.map a.eval) (by simp only [SV.denL,e1,ea]) h (fun hg2=>by simpa [growOp,hargs,hr,hv] using hg2) ?_
   show Sem.run P (do let d ← resolve a.eval c type;invoke d.target d.args) w=_
   have hargs':c.args.map a.eval=(c.args.toList.map a.eval).toArray:=by apply Array.ext';simp
   have hm:=run_method (P:=P) hg x (P.types.size+Made.depth-1) w
   have hd:P.types.size+Made.depth-1+1=P.types.size+Made.depth:=by unfold Made.depth;omega
   rw [hd] at hm
   simp only [resolve,hr,← e2,Sem.run_bind,Sem.run_pure,Result.andThen_ok,invoke,hargs']
   have hx0:(#[Value.iface T x]++(c.args.toList.map a.eval).toArray)[0]? =some (Value.iface T x):=by simp
   have hx1:(#[Value.iface T x]++(c.args.toList.map a.eval).toArray).extract 1 (#[Value.iface T x]++(c.args.toList.map a.eval).toArray).size=(c.args.toList.map a.eval).toArray:=by
    apply Array.ext';simp [List.take_of_length_le]
   simp only [hx0,hx1,callMethod,Sem.run_bind,run_program,Result.andThen_ok,hm]
   congr 2
   apply Array.ext';simp
  ·rename_i hc
   have hx:execOp a.eval ⟨dst,.call c,type,pos,after,guard⟩=(do pure (Next.value (← Builtin.len_ c.argTypes type (c.args.map a.eval)))):=by
    simp only [execOp,resolve,hc];rfl
   have ht:∀ {d},(c.argTypes[0]?).bind P.underlying=some d->∃ t,c.argTypes[0]? =some t/\P.underlying t=some d:=fun {d} e=>by
    simpa [Option.bind_eq_some_iff] using e
   split at h
   ·rename_i base n cap e hu
    obtain ⟨t,ht1,ht2⟩:=ht hu
    have ev:c.args.map a.eval= #[.slice base n cap]:=eaA _ rfl
    refine upon_val hx (v:=.int .i64 n) (w':=w) ?_ (done rfl h)
    unfold Builtin.len_
    simp [ev,ht1,run_underlying ht2,goInt]
   ·rename_i b off n cap e hu
    obtain ⟨t,ht1,ht2⟩:=ht hu
    refine upon_val hx (v:=.int .i64 n) (w':=w) ?_ (done rfl h)
    have hd:∃ base,c.args.map a.eval= #[.slice base n cap]:=by
     have ea2:=ea
     simp only [SV.denL,SV.den] at ea2
     cases hsd:slcDen ρ b off n cap with
     | none=>rw [hsd] at ea2;simp at ea2
     | some v=>
      rw [hsd] at ea2
      have:=eaA [v] (by simp only [SV.denL,SV.den,hsd])
      rcases slcDen_some hsd with ⟨c',_,rfl,_⟩|⟨_,rfl,rfl,rfl,rfl⟩
      ·exact ⟨_,this⟩
      ·exact ⟨_,this⟩
    obtain ⟨base,ev⟩:=hd
    unfold Builtin.len_
    simp [ev,ht1,run_underlying ht2,goInt]
   ·rename_i s hu
    obtain ⟨t,ht1,ht2⟩:=ht hu
    have ev:c.args.map a.eval= #[.string s]:=eaA _ rfl
    refine upon_val hx (v:=.int .i64 s.size) (w':=w) ?_ (done rfl h)
    unfold Builtin.len_
    simp [ev,ht1,run_underlying ht2,goInt]
   ·rename_i s0 n e hu
    obtain ⟨t,ht1,ht2⟩:=ht hu
    refine upon_val hx (v:=.int .i64 n) (w':=w) ?_ (done rfl h)
    have hd:∃ x,c.args.map a.eval= #[x]:=by
     have hl:=denL_length ea
     have hsz:(c.args.map a.eval).size=1:=by simpa using hl
     refine ⟨(c.args.map a.eval)[0],?_⟩
     apply Array.ext<;>simp [hsz]
     intro i h1;have :i=0:=by omega
     subst this;simp
    obtain ⟨x,ev⟩:=hd
    unfold Builtin.len_
    simp [ev,ht1,run_underlying ht2,goInt]
   ·rename_i b key elem hu
    obtain ⟨t,ht1,ht2⟩:=ht hu
    split at h
    case h_2=>exact h.elim
    rename_i e cells tot hb
    have ea2:=ea
    simp only [SV.denL,SV.den] at ea2
    cases hsd:mpDen ρ false b with
    | none=>rw [hsd] at ea2;simp at ea2
    | some v=>
     have ev:=eaA [v] (by simp only [SV.denL,SV.den,hsd])
     refine upon_val hx (v:=.int .i64 (cells.length / 2:Nat)) (w':=w) ?_ (done rfl h)
     rw [ev]
     exact mapLen_sound (P:=P) ht2 hb hR hsd c.argTypes ht1
   ·exact h.elim
  ·rename_i hc
   have hx:execOp a.eval ⟨dst,.call c,type,pos,after,guard⟩=(do pure (Next.value (← Builtin.cap_ c.argTypes type (c.args.map a.eval)))):=by
    simp only [execOp,resolve,hc];rfl
   have ht:∀ {d},(c.argTypes[0]?).bind P.underlying=some d->∃ t,c.argTypes[0]? =some t/\P.underlying t=some d:=fun {d} e=>by
    simpa [Option.bind_eq_some_iff] using e
   split at h
   ·rename_i base n cap e hu
    obtain ⟨t,ht1,ht2⟩:=ht hu
    have ev:c.args.map a.eval= #[.slice base n cap]:=eaA _ rfl
    refine upon_val hx (v:=.int .i64 cap) (w':=w) ?_ (done rfl h)
    unfold Builtin.cap_
    simp [ev,ht1,run_underlying ht2,goInt]
   ·rename_i b off n cap e hu
    obtain ⟨t,ht1,ht2⟩:=ht hu
    refine upon_val hx (v:=.int .i64 cap) (w':=w) ?_ (done rfl h)
    have hd:∃ base,c.args.map a.eval= #[.slice base n cap]:=by
     have ea2:=ea
     simp only [SV.denL,SV.den] at ea2
     cases hsd:slcDen ρ b off n cap with
     | none=>rw [hsd] at ea2;simp at ea2
     | some v=>
      rw [hsd] at ea2
      have:=eaA [v] (by simp only [SV.denL,SV.den,hsd])
      rcases slcDen_some hsd with ⟨c',_,rfl,_⟩|⟨_,rfl,rfl,rfl,rfl⟩
      ·exact ⟨_,this⟩
      ·exact ⟨_,this⟩
    obtain ⟨base,ev⟩:=hd
    unfold Builtin.cap_
    simp [ev,ht1,run_underlying ht2,goInt]
   ·exact h.elim
  ·rename_i hc
   have hx:execOp a.eval ⟨dst,.call c,type,pos,after,guard⟩=(do pure (Next.value (← Builtin.append_ c.argTypes type (c.args.map a.eval)))):=by
    simp only [execOp,resolve,hc];rfl
   split at h
   case h_2=>exact h.elim
   rename_i s x t u hty
   have hat:c.argTypes= #[t,u]:=by apply Array.ext';simpa using hty
   simp only [SV.denL] at ea
   split at ea
   case h_2=>cases ea
   rename_i sv us hsv hus
   split at hus
   case h_2=>cases hus
   rename_i xv vs hxv hvs
   simp only [Option.some.injEq] at hvs hus;subst hvs;subst hus
   have hav:c.args.map a.eval= #[sv,xv]:=eaA [sv,xv] (by simp only [SV.denL,hsv,hxv])
   split at h
   ·rename_i e f ht hu
    obtain ⟨v,w',s',bx',E',ρ',h1,h2,h3,h4,h5⟩:=appendW_sound (P:=P) (ty:=type) ht hu h hR hsv hxv
    exact upon_val hx (by rw [hat,hav];exact h1) (hk _ _ _ _ _ _ h2 h3 h4 (fun hg=>by simp [growOp,hargs,hc] at hg) h5)
   ·rename_i e kn ht hu
    obtain ⟨v,w',s',bx',ρ',h1,h2,h3,h4,h5⟩:=appendZ_sound (P:=P) (ty:=type) ht hu h hR hsv hxv
    exact upon_val hx (by rw [hat,hav];exact h1) (hk _ _ _ _ _ _ h2 h3 h4 (fun hg=>by simp [growOp,hargs,hc] at hg) h5)
   ·exact h.elim
  ·rename_i hc
   have hx:execOp a.eval ⟨dst,.call c,type,pos,after,guard⟩=(do pure (Next.value (← Builtin.copy_ c.argTypes type (c.args.map a.eval)))):=by
    simp only [execOp,resolve,hc];rfl
   split at h
   case h_2=>exact h.elim
   rename_i s x t u hty
   split at h
   case h_2=>exact h.elim
   rename_i e f ht hu
   have hat:c.argTypes= #[t,u]:=by apply Array.ext';simpa using hty
   simp only [SV.denL] at ea
   split at ea
   case h_2=>cases ea
   rename_i sv us hsv hus
   split at hus
   case h_2=>cases hus
   rename_i xv vs hxv hvs
   simp only [Option.some.injEq] at hvs hus;subst hvs;subst hus
   have hav:c.args.map a.eval= #[sv,xv]:=eaA [sv,xv] (by simp only [SV.denL,hsv,hxv])
   obtain ⟨v,w',s',bx',h1,h3,h4,h5⟩:=copyW_sound (P:=P) (ty:=type) ht hu h hR hsv hxv
   exact upon_val hx (by rw [hat,hav];exact h1) (hk _ _ _ _ _ _ (List.prefix_refl _) h3 h4 (fun hg=>by simp [growOp,hargs,hc] at hg) h5)
  ·rename_i hc
   have hx:execOp a.eval ⟨dst,.call c,type,pos,after,guard⟩=(do pure (Next.value (← Builtin.clear_ c.argTypes type (c.args.map a.eval)))):=by
    simp only [execOp,resolve,hc];rfl
   split at h
   case h_2=>exact h.elim
   rename_i s t hty
   split at h
   case h_2=>exact h.elim
   rename_i e ht
   have hat:c.argTypes= #[t]:=by apply Array.ext';simpa using hty
   simp only [SV.denL] at ea
   split at ea
   case h_2=>cases ea
   rename_i sv us hsv hus
   simp only [Option.some.injEq] at hus;subst hus
   have hav:c.args.map a.eval= #[sv]:=eaA [sv] (by simp only [SV.denL,hsv])
   obtain ⟨v,w',s',bx',h1,h3,h4,h5⟩:=clearW_sound (P:=P) (ty:=type) ht h hR hsv
   exact upon_val hx (by rw [hat,hav];exact h1) (hk _ _ _ _ _ _ (List.prefix_refl _) h3 h4 (fun hg=>by simp [growOp,hargs,hc] at hg) h5)
  ·rename_i hc
   split at h
   case h_2=>exact h.elim
   rename_i vs hv
   have hx:execOp a.eval ⟨dst,.call c,type,pos,after,guard⟩=(do pure (Next.value (← Builtin.min_ #[] 0 vs.toArray))):=by
    have:=eaA vs (SV.denL_of_val ρ args hv)
    simp only [execOp,resolve,hc,this];rfl
   exact pureOp_sound hR hk hx h
  ·rename_i hc
   split at h
   case h_2=>exact h.elim
   rename_i vs hv
   have hx:execOp a.eval ⟨dst,.call c,type,pos,after,guard⟩=(do pure (Next.value (← Builtin.max_ #[] 0 vs.toArray))):=by
    have:=eaA vs (SV.denL_of_val ρ args hv)
    simp only [execOp,resolve,hc,this];rfl
   exact pureOp_sound hR hk hx h
  ·exact h.elim
 | makeMap T r=>
  simp only [opW] at h
  obtain ⟨v,w',s,bx',ρ',h1,h2,h3,h4,h5,h6⟩:=makeMapW_sound (rv:=r.map a.eval) h hR (fun s e=>by
   cases r with
   | none=>cases e
   | some x=>
    simp only [Option.map_some,Option.some.injEq] at e
    exact ⟨_,rfl,opd_den hF e⟩) (fun e=>by cases r with |none=>rfl|some x=>cases e)
  exact upon_val (s:=Instr.makeMap T (r.map a.eval)) rfl h1 (hk _ _ _ _ _ _ h2 h3 h4 (fun _=>⟨h6,Mem.le_refl _⟩) h5)
 | lookup T x ix ok=>
  simp only [opW] at h
  split at h
  case h_2=>exact h.elim
  rename_i s t hs ht
  obtain ⟨v,r,h1,h2,h3⟩:=lookupW_sound h hR (opd_den hF hs) (opd_den hF ht)
  exact upon_val (s:=Instr.lookup T (a.eval x) (a.eval ix) ok) rfl (h1 w hR) (done h2 h3)
 | range T x=>
  simp only [opW] at h
  split at h
  case h_2=>exact h.elim
  rename_i s hs
  obtain ⟨v,w',r,bx',ρ',h1,h2,h3,h4,h5,h6⟩:=rangeW_sound h hR (opd_den hF hs)
  exact upon_val (s:=Instr.range T (a.eval x)) rfl h1 (hk _ _ _ _ _ _ h2 h3 h4 (fun _=>⟨h6,Mem.le_refl _⟩) h5)
 | next x st=>
  cases st with
  | true=>exact h.elim
  | false=>
  simp only [opW] at h
  split at h
  case h_2=>exact h.elim
  rename_i s hs
  obtain ⟨v,w',r,bx',h1,h2,h3,h4⟩:=nextW_sound (P:=P) (ty:=type) h hR (opd_den hF hs)
  exact upon_val (s:=Instr.next (a.eval x) false type) rfl h1 (hk _ _ _ _ _ _ (List.prefix_refl _) h2 h3 (fun hg=>by simp [growOp] at hg) h4)
 | entry x=>
  simp only [opW] at h
  split at h
  case h_2=>exact h.elim
  rename_i s hs
  obtain ⟨v,r,h1,h2,h3⟩:=entryW_sound (P:=P) h hR (opd_den hF hs)
  exact upon_val (s:=Instr.entry (a.eval x)) rfl h1 (done h2 h3)
 | mapUpdate T m ix x=>
  simp only [opW] at h
  split at h
  case h_2=>exact h.elim
  rename_i s t r hs ht hr
  obtain ⟨w',bx',h1,h2,h⟩:=updateW_sound h hR (opd_den hF hs) (opd_den hF ht) (opd_den hF hr)
  have :(execOp a.eval ⟨dst,.mapUpdate T m ix x,type,pos,after,guard⟩).run P w= .ok .skip w':=by
   show Sem.run P (do Instr.mapUpdate T (a.eval m) (a.eval ix) (a.eval x);pure Next.skip) w=_
   simp only [Sem.run_bind,h1,Result.andThen_ok,Sem.run_pure]
  rw [this]
  exact hk _ _ _ _ ρ w' (List.prefix_refl _) rfl h2 (fun hg=>by simp [growOp] at hg) h
 | insert T m ix x=>
  simp only [opW] at h
  split at h
  case h_2=>exact h.elim
  rename_i s t r hs ht hr
  obtain ⟨w',bx',h1,h2,h⟩:=updateW_sound h hR (opd_den hF hs) (opd_den hF ht) (opd_den hF hr)
  have :(execOp a.eval ⟨dst,.insert T m ix x,type,pos,after,guard⟩).run P w= .ok .skip w':=by
   show Sem.run P (do Instr.mapUpdate T (a.eval m) (a.eval ix) (a.eval x);pure Next.skip) w=_
   simp only [Sem.run_bind,h1,Result.andThen_ok,Sem.run_pure]
  rw [this]
  exact hk _ _ _ _ ρ w' (List.prefix_refl _) rfl h2 (fun hg=>by simp [growOp] at hg) h
 | _=>exact h.elim
end
end Go.Sx
namespace Go.Sx
open Go.RowKit (Below)
inductive Ex where
 | normal|exit (id:Nat)|ret
def St.put (S:St) (dst:Option Tmp) (s:SV):St:=
 match dst with
 | some d=>{ S with fr:=S.fr.set d (some s) }
 | none=>S
def guardW (all:Array Oper) (o:Oper) (S:St) (exec skip:St->Prop):Prop:=
 match o.guard with
 | none=>exec S
 | some (j,want)=>
  match (all[j]?).bind (·.dst) with
  | none=>False
  | some d=>match S.fr[d]? with
   | some (some (.raw (.bool b)))=>match want with
    | true=>cond b (exec (S.put (some d) (.raw (.bool true)))) (skip (S.put (some d) (.raw (.bool false))))
    | false=>cond b (skip (S.put (some d) (.raw (.bool true)))) (exec (S.put (some d) (.raw (.bool false))))
   | some (some (.raw (.tuple _)))=>skip S
   | _=>False
def stepW (P:Program) (callW:CallT) (all:Array Oper) (o:Oper) (S:St) (K:St->Prop):Prop:=
 guardW all o S (fun S=>opW P callW o.op S fun s bx E=>K (({ S with bx:=bx,E:=E }:St).put o.dst s)) (fun S=>K (S.put o.dst (.raw undef)))
def stepGW (P:Program) (callW:CallT) (all:Array Oper) (o:Oper) (S:St) (K:St->Prop):Prop:=
 guardW all o S (fun S=>if growOp o.op S then opW P callW o.op S fun s bx E=>K (({ S with bx:=bx,E:=E }:St).put o.dst s) else False) (fun S=>K (S.put o.dst (.raw undef)))
def opsW (P:Program) (callW:CallT) (all:Array Oper):List Oper->St->(St->Prop)->Prop
 | [],S,K=>K S
 | o::r,S,K=>stepW P callW all o S fun S'=>opsW P callW all r S' K
def Lift (w0:World) (mu:Fm) (ρ0:Env) (K:St->Prop):Act->World->Prop:=fun a w=>
 (a.defers=mu.ds/\okO w0 mu)/\∃ S ρ,ρ0<+:ρ/\Rel w0 mu S.bx S.E ρ w/\FrRel ρ S.fr a.tmps/\K S
def okD (w0:World) (mu:Fm):Prop:=mu.ds.Nodup/\∀ d∈mu.ds,∃ D,d={ target:=.collected D,args:=#[] }/\w0.heap[D]? =some (.deferred (some []))/\D ∉ mu.mu
structure Base (w0:World) (mu:Fm) (w1:World) (mu1:Fm):Prop where
 om:mu1.om=mu.om
 back:∀ bx E ρ w,Rel w1 mu1 bx E ρ w->Rel w0 mu bx E ρ w
 backX:∀ c o bx E ρ w,mu.om=some c->okO w0 mu->Rel (w1.putObj c.l (.loop o)) mu1 bx E ρ w->Rel (w0.putObj c.l (.loop o)) mu bx E ρ w
 okX:okO w0 mu->okO w1 mu1
 size:w0.heap.size<=w1.heap.size
 mark:okD w0 mu->okD w1 mu1
 fresh:∀ d∈mu1.ds,d∈mu.ds\/∃ D,d={ target:=.collected D,args:=#[] }/\w0.heap.size<=D
theorem Base.refl (w0:World) (mu:Fm):Base w0 mu w0 mu:=⟨rfl,fun _ _ _ _ h=>h,fun _ _ _ _ _ _ _ _ h=>h,fun h=>h,Nat.le_refl _,fun h=>h,fun _ h=>.inl h⟩
theorem Base.trans {w0 w1 w2:World} {mu mu1 mu2:Fm} (h:Base w0 mu w1 mu1) (k:Base w1 mu1 w2 mu2):Base w0 mu w2 mu2:=
 ⟨k.om.trans h.om,fun bx E ρ w x=>h.back bx E ρ w (k.back bx E ρ w x),fun c o bx E ρ w e ho x=>h.backX c o bx E ρ w e ho (k.backX c o bx E ρ w (h.om.trans e) (h.okX ho) x),fun x=>k.okX (h.okX x),Nat.le_trans h.size k.size,fun x=>k.mark (h.mark x),fun d hd=>by
  rcases k.fresh d hd with q|⟨D,e,q⟩
  ·exact h.fresh d q
  ·exact .inr ⟨D,e,Nat.le_trans h.size q⟩⟩
def LiftR (w0:World) (mu:Fm) (ρ0:Env) (K:St->Prop):Act->World->Prop:=fun a w=>∃ w1 mu1,Base w0 mu w1 mu1/\Lift w1 mu1 ρ0 K a w
def LiftX (w0:World) (mu:Fm) (ρ0:Env):Act->World->Prop:=fun a w=>∃ c,mu.om=some c/\okO w0 mu/\∃ w1 mu1,Base w0 mu w1 mu1/\a.defers=mu1.ds/\∃ bx E ρ,ρ0<+:ρ/\Rel (w1.putObj c.l (.loop c.stop)) mu1 bx E ρ w/\c.q bx E
def LiftQ (w0:World) (mu:Fm) (ρ0:Env) (Q:Ex->St->Prop):Exit->Act->World->Prop
 | .normal=>LiftR w0 mu ρ0 (Q .normal)
 | .exit id=>LiftR w0 mu ρ0 (Q (.exit id))
 | .ret=>fun a w=>LiftR w0 mu ρ0 (Q .ret) a w\/LiftX w0 mu ρ0 a w
 | _=>fun _ _=>False
theorem Lift.mono {w0:World} {mu:Fm} {ρ0:Env} {K K':St->Prop} {a:Act} {w:World} (h:Lift w0 mu ρ0 K a w) (hk:∀ S,K S->K' S):Lift w0 mu ρ0 K' a w:=
 let ⟨h1,S,ρ,h2,h3,h4,h5⟩:=h;⟨h1,S,ρ,h2,h3,h4,hk S h5⟩
theorem LiftR.mono {w0:World} {mu:Fm} {ρ0:Env} {K K':St->Prop} {a:Act} {w:World} (h:LiftR w0 mu ρ0 K a w) (hk:∀ S,K S->K' S):LiftR w0 mu ρ0 K' a w:=
 let ⟨w1,mu1,h1,h2⟩:=h;⟨w1,mu1,h1,h2.mono hk⟩
theorem LiftR.of {w0:World} {mu:Fm} {ρ0:Env} {K:St->Prop} {a:Act} {w:World} (h:Lift w0 mu ρ0 K a w):LiftR w0 mu ρ0 K a w:=⟨w0,mu,Base.refl w0 mu,h⟩
theorem LiftR.base {w0 w1:World} {mu mu1:Fm} {ρ0:Env} {K:St->Prop} {a:Act} {w:World} (hb:Base w0 mu w1 mu1) (h:LiftR w1 mu1 ρ0 K a w):LiftR w0 mu ρ0 K a w:=
 let ⟨w2,mu2,h1,h2⟩:=h;⟨w2,mu2,hb.trans h1,h2⟩
theorem FrRel.put {ρ:Env} {S:St} {a:Act} (h:FrRel ρ S.fr a.tmps) (dst:Option Tmp) {s:SV} {v:Value} (hv:s.den ρ=some v):FrRel ρ (S.put dst s).fr (a.put dst v).tmps:=by
 cases dst with
 | none=>exact h
 | some d=>exact h.set d hv
theorem put_defers (a:Act) (dst:Option Tmp) (v:Value):(a.put dst v).defers=a.defers:=by cases dst<;>rfl
theorem St.put_bx (S:St) (dst:Option Tmp) (s:SV):(S.put dst s).bx=S.bx:=by cases dst<;>rfl
theorem St.put_E (S:St) (dst:Option Tmp) (s:SV):(S.put dst s).E=S.E:=by cases dst<;>rfl
theorem FrRel.lit {ρ:Env} {S:St} {a:Act} {d:Nat} {b c:Bool} (hF:FrRel ρ S.fr a.tmps) (h1:a.tmps[d]? =some (.bool b)) (e:b=c):FrRel ρ (S.put (some d) (.raw (.bool c))).fr a.tmps:=by
 subst e
 have:=FrRel.put (S:=S) (a:=a) hF (some d) (s:=.raw (.bool b)) (v:=.bool b) rfl
 have e2:(a.put (some d) (.bool b)).tmps=a.tmps:=by
  simp only [Act.put]
  apply Array.ext_getElem?
  intro i
  by_cases hi:d=i
  ·subst hi
   have hlt:d<a.tmps.size:=by
    rcases Nat.lt_or_ge d a.tmps.size with h'|h'
    ·exact h'
    ·simp [Array.getElem?_eq_none h'] at h1
   simp [hlt]
   simpa [hlt] using h1.symm
  ·rw [Array.getElem?_setIfInBounds_ne hi]
 rw [e2] at this;exact this
section
variable {P:Program} {callW:CallT} {all:Array Oper}
theorem wpInW {ro:Option Nat} {o:Oper} {a:Act} {w:World} {next:Act->World->Prop} {Q:Exit->Act->World->Prop} (hnd:∀ c,o.op≠.defer c) (h:o.uponIn (fW ro) 0 P a next Q ((execOp a.eval o).run P w)):o.wpIn (fW ro) 0 P a w next Q:=
 ⟨fun _ _=>trivial,by rw [Oper.semAt_eq _ _ _ hnd];exact h⟩
theorem opW_defer {S:St} {K:KT} {op:Op} (h:opW P callW op S K):∀ c,op≠.defer c:=by
 rintro c rfl;exact h
theorem stepW_sound {ro:Option Nat} {Ω:Option Rc} (hcall:CallOK Ω P callW) {o:Oper} {w0:World} {mu:Fm} {ρ0:Env} {K:St->Prop} {a:Act} {w:World} {Q:Exit->Act->World->Prop}
  (hom:mu.om=Ω/\okE Ω ρ0) (h:Lift w0 mu ρ0 (fun S=>stepW P callW all o S K) a w):
  if Region.wanted o (yielded all a.tmps)=true then o.wpIn (fW ro) 0 P a w (Lift w0 mu ρ0 K) Q else Lift w0 mu ρ0 K (a.put o.dst undef) w:=by
 obtain ⟨hd,S,ρ,hp,hR,hF,h⟩:=h
 have hex:∀ S':St,S'.bx=S.bx->S'.E=S.E->FrRel ρ S'.fr a.tmps->(opW P callW o.op S' fun s bx E=>K (({ S' with bx:=bx,E:=E }:St).put o.dst s))->o.wpIn (fW ro) 0 P a w (Lift w0 mu ρ0 K) Q:=by
  intro S' h1 h2 hF' hop
  have hR':Rel w0 mu S'.bx S'.E ρ w:=by rw [h1,h2];exact hR
  have hk:NextOK o.op S' o.dst a ρ w0 mu (fun s bx E=>K (({ S' with bx:=bx,E:=E }:St).put o.dst s)) (Lift w0 mu ρ0 K):=by
   intro s v bx E ρ' w' hp' hs hR2 _ hK
   refine ⟨by rw [put_defers];exact hd,_,ρ',hp.trans hp',?_,?_,hK⟩
   ·rw [St.put_bx,St.put_E];exact hR2
   ·exact FrRel.put (S:={ S' with bx:=bx,E:=E }) (hF'.mono hp') o.dst hs
  exact wpInW (opW_defer hop) (opW_sound hcall ⟨⟨hom.1,hom.2.mono hp⟩,hd.2⟩ hR' hF' hop hk)
 have hsk:∀ S':St,S'.bx=S.bx->S'.E=S.E->FrRel ρ S'.fr a.tmps->K (S'.put o.dst (.raw undef))->Lift w0 mu ρ0 K (a.put o.dst undef) w:=by
  intro S' h1 h2 hF' hK
  refine ⟨by rw [put_defers];exact hd,_,ρ,hp,?_,FrRel.put hF' o.dst rfl,hK⟩
  rw [St.put_bx,St.put_E,h1,h2];exact hR
 unfold stepW guardW at h
 split at h
 ·rename_i hg
  rw [if_pos (by simp [Region.wanted,hg])]
  exact hex S rfl rfl hF h
 ·rename_i j want hg
  split at h
  ·exact h.elim
  ·rename_i d hj
   split at h
   ·rename_i b hb
    obtain ⟨v,h1,h2⟩:=hF.2 d _ hb
    simp only [SV.den,Option.some.injEq] at h2;subst h2
    have hy:yielded all a.tmps j=some b:=by simp [yielded,hj,h1]
    have hset:∀ c:Bool,b=c->FrRel ρ (S.put (some d) (.raw (.bool c))).fr a.tmps:=fun c e=>FrRel.lit hF h1 e
    cases want<;>cases b<;>simp only [cond] at h
    ·rw [if_pos (by simp [Region.wanted,hg,hy])]
     exact hex (S.put (some d) (.raw (.bool false))) rfl rfl (hset false rfl) h
    ·rw [if_neg (by simp [Region.wanted,hg,hy])]
     exact hsk (S.put (some d) (.raw (.bool true))) rfl rfl (hset true rfl) h
    ·rw [if_neg (by simp [Region.wanted,hg,hy])]
     exact hsk (S.put (some d) (.raw (.bool false))) rfl rfl (hset false rfl) h
    ·rw [if_pos (by simp [Region.wanted,hg,hy])]
     exact hex (S.put (some d) (.raw (.bool true))) rfl rfl (hset true rfl) h
   ·rename_i vs hb
    obtain ⟨v,h1,h2⟩:=hF.2 d _ hb
    simp only [SV.den,Option.some.injEq] at h2;subst h2
    have hy:yielded all a.tmps j=none:=by simp [yielded,hj,h1]
    rw [if_neg (by simp [Region.wanted,hg,hy])]
    exact hsk S rfl rfl hF h
   ·exact h.elim
theorem stepGW_sound {ro:Option Nat} {Ω:Option Rc} (hcall:CallOK Ω P callW) {o:Oper} {w0:World} {mu:Fm} {ρ0:Env} {K:St->Prop} {a:Act} {w:World} {Q:Exit->Act->World->Prop}
  {S:St} {ρ:Env} (hom:mu.om=Ω/\okE Ω ρ0) (hd:a.defers=mu.ds/\okO w0 mu) (hp:ρ0<+:ρ) (hR:Rel w0 mu S.bx S.E ρ w) (hF:FrRel ρ S.fr a.tmps) (h:stepGW P callW all o S K):
  if Region.wanted o (yielded all a.tmps)=true then o.wpIn (fW ro) 0 P a w (Lift w0 mu ρ0 fun S'=>(S.bx<+:S'.bx/\Mem.le S.E S'.E)/\K S') Q
  else Lift w0 mu ρ0 (fun S'=>(S.bx<+:S'.bx/\Mem.le S.E S'.E)/\K S') (a.put o.dst undef) w:=by
 have hex:∀ S':St,S'.bx=S.bx->S'.E=S.E->FrRel ρ S'.fr a.tmps->(if growOp o.op S' then opW P callW o.op S' fun s bx E=>K (({ S' with bx:=bx,E:=E }:St).put o.dst s) else False)->o.wpIn (fW ro) 0 P a w (Lift w0 mu ρ0 fun S'=>(S.bx<+:S'.bx/\Mem.le S.E S'.E)/\K S') Q:=by
  intro S' h1 h2 hF' hop
  split at hop
  case isFalse=>exact hop.elim
  rename_i hgrow
  have hR':Rel w0 mu S'.bx S'.E ρ w:=by rw [h1,h2];exact hR
  have hk:NextOK o.op S' o.dst a ρ w0 mu (fun s bx E=>K (({ S' with bx:=bx,E:=E }:St).put o.dst s)) (Lift w0 mu ρ0 fun S'=>(S.bx<+:S'.bx/\Mem.le S.E S'.E)/\K S'):=by
   intro s v bx E ρ' w' hp' hs hR2 hgr hK
   refine ⟨by rw [put_defers];exact hd,_,ρ',hp.trans hp',?_,?_,?_,hK⟩
   rotate_right
   ·rw [St.put_bx,St.put_E,← h1,← h2];exact hgr hgrow
   ·rw [St.put_bx,St.put_E];exact hR2
   ·exact FrRel.put (S:={ S' with bx:=bx,E:=E }) (hF'.mono hp') o.dst hs
  exact wpInW (opW_defer hop) (opW_sound hcall ⟨⟨hom.1,hom.2.mono hp⟩,hd.2⟩ hR' hF' hop hk)
 have hsk:∀ S':St,S'.bx=S.bx->S'.E=S.E->FrRel ρ S'.fr a.tmps->K (S'.put o.dst (.raw undef))->Lift w0 mu ρ0 (fun S'=>(S.bx<+:S'.bx/\Mem.le S.E S'.E)/\K S') (a.put o.dst undef) w:=by
  intro S' h1 h2 hF' hK
  refine ⟨by rw [put_defers];exact hd,_,ρ,hp,?_,FrRel.put hF' o.dst rfl,⟨by rw [St.put_bx,h1];exact List.prefix_refl _,by rw [St.put_E,h2];exact Mem.le_refl _⟩,hK⟩
  rw [St.put_bx,St.put_E,h1,h2];exact hR
 unfold stepGW guardW at h
 split at h
 ·rename_i hg
  rw [if_pos (by simp [Region.wanted,hg])]
  exact hex S rfl rfl hF h
 ·rename_i j want hg
  split at h
  ·exact h.elim
  ·rename_i d hj
   split at h
   ·rename_i b hb
    obtain ⟨v,h1,h2⟩:=hF.2 d _ hb
    simp only [SV.den,Option.some.injEq] at h2;subst h2
    have hy:yielded all a.tmps j=some b:=by simp [yielded,hj,h1]
    have hset:∀ c:Bool,b=c->FrRel ρ (S.put (some d) (.raw (.bool c))).fr a.tmps:=fun c e=>FrRel.lit hF h1 e
    cases want<;>cases b<;>simp only [cond] at h
    ·rw [if_pos (by simp [Region.wanted,hg,hy])]
     exact hex (S.put (some d) (.raw (.bool false))) rfl rfl (hset false rfl) h
    ·rw [if_neg (by simp [Region.wanted,hg,hy])]
     exact hsk (S.put (some d) (.raw (.bool true))) rfl rfl (hset true rfl) h
    ·rw [if_neg (by simp [Region.wanted,hg,hy])]
     exact hsk (S.put (some d) (.raw (.bool false))) rfl rfl (hset false rfl) h
    ·rw [if_pos (by simp [Region.wanted,hg,hy])]
     exact hex (S.put (some d) (.raw (.bool true))) rfl rfl (hset true rfl) h
   ·rename_i vs hb
    obtain ⟨v,h1,h2⟩:=hF.2 d _ hb
    simp only [SV.den,Option.some.injEq] at h2;subst h2
    have hy:yielded all a.tmps j=none:=by simp [yielded,hj,h1]
    rw [if_neg (by simp [Region.wanted,hg,hy])]
    exact hsk S rfl rfl hF h
   ·exact h.elim
theorem opsW_sound {ro:Option Nat} {Ω:Option Rc} (hcall:CallOK Ω P callW) {w0:World} {mu:Fm} {ρ0:Env} {K:St->Prop} {Q:Exit->Act->World->Prop} (hom:mu.om=Ω/\okE Ω ρ0) (hQ:∀ a w,Lift w0 mu ρ0 K a w->Q .normal a w):
  ∀ (l:List Oper) (a:Act) (w:World),Lift w0 mu ρ0 (fun S=>opsW P callW all l S K) a w->wpListIn (fW ro) 0 P all Q l a w
 | [],a,w,h=>hQ a w h
 | o::l,a,w,h=>by
  have:=stepW_sound (ro:=ro) (Q:=Q) hcall (o:=o) (K:=fun S'=>opsW P callW all l S' K) hom h
  simp only [wpListIn]
  split
  ·rename_i hw
   rw [if_pos hw] at this
   exact Oper.wpIn_mono (fun a w h=>opsW_sound hcall hom hQ l a w h) this
  ·rename_i hw
   rw [if_neg hw] at this
   exact ⟨fun _ _=>trivial,opsW_sound hcall hom hQ l _ _ this⟩
end
def isDet:Op->Bool
 | .move _| .assign _| .pick .. | .build .. | .load .. | .nilCheck _| .binOp .. | .unOp .. | .makeInterface .. | .makeFunc .. | .fieldAddr .. | .field .. | .indexAddr .. | .index .. | .extract .. | .typeAssert .. | .lookup .. =>true
 | .slice .. =>true
 | .convert src dst _=>src !=dst
 | .call { callee:=.builtin .len,.. }| .call { callee:=.builtin .min,.. }| .call { callee:=.builtin .max,.. }| .call { callee:=.builtin .cap,.. }=>true
 | _=>false
def isLoad:Op->Bool
 | .load .. | .lookup .. | .call { callee:=.builtin .len,.. }=>true
 | _=>false
def waitsOn (ops:Array Oper) (listed:Array Bool) (k:Nat):Nat->List Nat->List Nat
 | 0,acc=>acc
 | n+1,acc=>
  match (List.range ops.size).find? (fun j=> !listed.getD j true&&j !=k&& !acc.contains j&&((ops[j]?).map (·.after.any fun e=>Region.binds .any e&&(e.on==k||acc.contains e.on))).getD false) with
  | some j=>waitsOn ops listed k n (j::acc)
  | none=>acc
def forgetL (ds:List Nat):Nat->List (Option SV)->List (Option SV)
 | _,[]=>[]
 | k,o::l=>(if ds.contains k then none else o)::forgetL ds (k+1) l
def St.forget (S:St) (ds:List Nat):St:={ S with fr:=forgetL ds 0 S.fr }
def detAt (all:Array Oper) (i:Nat):Bool:=((all[i]?).map (isDet ·.op)).getD false
def loadAtI (all:Array Oper) (i:Nat):Bool:=((all[i]?).map (isLoad ·.op)).getD true
def allocAt (okT:TypeId->Bool) (all:Array Oper) (i:Nat):Bool:=
 match all[i]? with
 | some ⟨some d,.alloc T,_,_,_,none⟩=>okT T&&(List.range all.size).all fun k=>k==i||decide (((all[k]?).bind (·.dst))≠some d)
 | _=>false
def setAllB (listed:Array Bool):List Nat->Array Bool
 | []=>listed
 | i::l=>setAllB (listed.setIfInBounds i true) l
inductive PT where
 | nil|bad|fin
 | q (i:Nat) (t:PT)
 | g (i:Nat) (t:PT)
 | al (i:Nat) (t:PT)
 | br (i:Nat) (t rest:PT)
 | brg (i:Nat) (t rest:PT)
def branches (f:Nat->PT):List Nat->PT
 | []=>.fin
 | [i]=>.q i (f i)
 | i::l=>.br i (f i) (branches f l)
def branchesG (D:Nat->Bool) (f:Nat->PT):List Nat->PT
 | []=>.fin
 | [i]=>match D i with
  | true=>.q i (f i)
  | false=>.g i (f i)
 | i::l=>match D i with
  | true=>.br i (f i) (branchesG D f l)
  | false=>.brg i (f i) (branchesG D f l)
def quietFirst (all:Array Oper) (tail:List Nat) (listed:Array Bool) (i:Nat):Bool:=
 detAt all i&& !tail.contains i&&Region.free .any all listed i&&(!loadAtI all i||tail.all fun j=>listed.getD j true||(waitsOn all listed i all.size []).contains j)
def planW (okT:TypeId->Bool) (all:Array Oper) (tail:List Nat):Nat->Array Bool->PT
 | 0,listed=>match Region.ready .any all listed with
  | []=>.nil
  | _=>.bad
 | n+1,listed=>
  match Region.ready .any all listed with
  | []=>.nil
  | r::rs=>
   match (r::rs).find? (quietFirst all tail listed) with
   | some i=>.q i (planW okT all tail n (listed.setIfInBounds i true))
   | none=>
    if ((List.range all.size).all fun j=>listed.getD j true||tail.contains j||detAt all j)=true then
     branches (fun i=>planW okT all tail n (listed.setIfInBounds i true)) (r::rs)
    else match (r::rs).filter (allocAt okT all) with
    | []=>match rs with
      | []=>if (tail.contains r||detAt all r)=true then .bad else .g r (planW okT all tail n (listed.setIfInBounds r true))
      | _::_=>.bad
    | x::xs=>
     match (r::rs).filter (fun i=> !allocAt okT all i) with
     | []=>if ((x::xs).all fun y=> !tail.contains y&&(Region.ready .any all (setAllB listed ((x::xs).filter (· !=y)))).all (· ==y))=true then
       .al x (planW okT all tail n (listed.setIfInBounds x true)) else .bad
     | [g]=>if (!(tail.contains g||detAt all g)&&((x::xs).all fun y=> !tail.contains y)&&(Region.ready .any all (setAllB listed (x::xs))).all (· ==g))=true then
       .g g (planW okT all tail n (listed.setIfInBounds g true)) else .bad
     | _=>.bad
def stuckW (okT:TypeId->Bool) (all:Array Oper) (tail:List Nat) (listed:Array Bool) (r:Nat) (rs:List Nat):Bool:=
 match (r::rs).filter (allocAt okT all) with
 | []=>match rs with
   | []=>false
   | _::_=>true
 | x::xs=>
  match (r::rs).filter (fun i=> !allocAt okT all i) with
  | []=> !((x::xs).all fun y=> !tail.contains y&&(Region.ready .any all (setAllB listed ((x::xs).filter (· !=y)))).all (· ==y))
  | [g]=> !(!(tail.contains g||detAt all g)&&((x::xs).all fun y=> !tail.contains y)&&(Region.ready .any all (setAllB listed (x::xs))).all (· ==g))
  | _=>true
def planF (okT:TypeId->Bool) (all:Array Oper) (tail:List Nat):Nat->Array Bool->PT
 | 0,listed=>match Region.ready .any all listed with
  | []=>.nil
  | _=>.bad
 | n+1,listed=>
  match Region.ready .any all listed with
  | []=>.nil
  | r::rs=>
   match (r::rs).find? (quietFirst all tail listed) with
   | some i=>.q i (planF okT all tail n (listed.setIfInBounds i true))
   | none=>
    if ((List.range all.size).all fun j=>listed.getD j true||tail.contains j||detAt all j)=true then
     branches (fun i=>planF okT all tail n (listed.setIfInBounds i true)) (r::rs)
    else if ((r::rs).all (fun i=> !tail.contains i)&&(stuckW okT all tail listed r rs||(rs.isEmpty&&(List.filter (allocAt okT all) [r]).isEmpty&& !detAt all r)))=true then
     branchesG (detAt all) (fun i=>planF okT all tail n (listed.setIfInBounds i true)) (r::rs)
    else planW okT all tail (n+1) listed
def runW (P:Program) (callW:CallT) (all:Array Oper):PT->St->(St->Prop)->Prop
 | .nil,S,K=>K S
 | .bad,_,_=>False
 | .fin,_,_=>True
 | .q i t,S,K=>match all[i]? with
  | some o=>stepW P callW all o S fun S'=>runW P callW all t S' K
  | none=>False
 | .al i t,S,K=>match all[i]? with
  | some o=>opW P callW o.op S fun s bx E=>runW P callW all t (({ S with bx:=bx,E:=E }:St).put o.dst s) K
  | none=>False
 | .g i t,S,K=>match all[i]? with
  | some o=>stepGW P callW all o S fun S'=>runW P callW all t S' K
  | none=>False
 | .br i t rest,S,K=>(match all[i]? with
  | some o=>stepW P callW all o S fun S'=>runW P callW all t S' K
  | none=>False)/\runW P callW all rest S K
 | .brg i t rest,S,K=>(match all[i]? with
  | some o=>stepGW P callW all o S fun S'=>runW P callW all t S' K
  | none=>False)/\runW P callW all rest S K
def okTy (P:Program) (T:TypeId):Bool:=match P.info? T with
 | some i=>match i.zero with
  | some z=>oneOrAgg (.raw z)
  | none=>false
 | none=>false
def allocDsts (P:Program) (all:Array Oper):List Nat:=(List.range all.size).filterMap fun i=>if allocAt (okTy P) all i then (all[i]?).bind (·.dst) else none
def drawW (P:Program) (callW:CallT) (all:Array Oper) (tail:List Nat) (n:Nat) (listed:Array Bool) (S:St) (K:St->Prop):Prop:=
 runW P callW all (planF (okTy P) all tail n listed) (S.forget (allocDsts P all)) K
theorem runW_branches {P:Program} {callW:CallT} {all:Array Oper} {f:Nat->PT} {S:St} {K:St->Prop}:∀ {l:List Nat},runW P callW all (branches f l) S K->∀ i∈l,∃ o,all[i]? =some o/\stepW P callW all o S fun S'=>runW P callW all (f i) S' K
 | [],_,i,hi=>by simp at hi
 | [j],h,i,hi=>by
  simp only [List.mem_singleton] at hi;subst hi
  simp only [branches,runW] at h
  split at h
  ·rename_i o ho;exact ⟨o,ho,h⟩
  ·exact h.elim
 | j::k::l,h,i,hi=>by
  simp only [branches,runW] at h
  obtain ⟨h1,h2⟩:=h
  rcases List.mem_cons.1 hi with rfl|hi
  ·split at h1
   ·rename_i o ho;exact ⟨o,ho,h1⟩
   ·exact h1.elim
  ·exact runW_branches (l:=k::l) h2 i hi
theorem runW_branchesG {P:Program} {callW:CallT} {all:Array Oper} {D:Nat->Bool} {f:Nat->PT} {S:St} {K:St->Prop}:∀ {l:List Nat},runW P callW all (branchesG D f l) S K->∀ i∈l,∃ o,all[i]? =some o/\
  (D i=true->stepW P callW all o S fun S'=>runW P callW all (f i) S' K)/\(D i=false->stepGW P callW all o S fun S'=>runW P callW all (f i) S' K)
 | [],_,i,hi=>by simp at hi
 | [j],h,i,hi=>by
  simp only [List.mem_singleton] at hi;subst hi
  simp only [branchesG] at h
  cases hD:D i with
  | true=>
   rw [hD] at h
   simp only [runW] at h
   split at h
   ·rename_i o ho;exact ⟨o,ho,fun _=>h,fun e=>(by cases e)⟩
   ·exact h.elim
  | false=>
   rw [hD] at h
   simp only [runW] at h
   split at h
   ·rename_i o ho;exact ⟨o,ho,fun e=>(by cases e),fun _=>h⟩
   ·exact h.elim
 | j::k::l,h,i,hi=>by
  simp only [branchesG] at h
  cases hD:D j with
  | true=>
   rw [hD] at h
   simp only [runW] at h
   obtain ⟨h1,h2⟩:=h
   rcases List.mem_cons.1 hi with rfl|hi
   ·split at h1
    ·rename_i o ho;exact ⟨o,ho,fun _=>h1,fun e=>by rw [hD] at e;cases e⟩
    ·exact h1.elim
   ·exact runW_branchesG (l:=k::l) h2 i hi
  | false=>
   rw [hD] at h
   simp only [runW] at h
   obtain ⟨h1,h2⟩:=h
   rcases List.mem_cons.1 hi with rfl|hi
   ·split at h1
    ·rename_i o ho;exact ⟨o,ho,fun e=>(by rw [hD] at e;cases e),fun _=>h1⟩
    ·exact h1.elim
   ·exact runW_branchesG (l:=k::l) h2 i hi
def tailOf (muts:Op->Bool) (all:Array Oper):List Nat:=
 let m:=(List.range all.size).filter fun i=>((all[i]?).map (muts ·.op)).getD false
 (List.range all.size).filter fun i=>m.contains i||m.any fun k=>(waitsOn all (Array.replicate all.size false) k all.size []).contains i
def sub:Code->List Nat->Code
 | c,[]=>c
 | .seq x _,0::p=>sub x p
 | .seq _ y,_::p=>sub y p
 | .cond _ x _,0::p=>sub x p
 | .cond _ _ y,_::p=>sub y p
 | .block _ x,_::p=>sub x p
 | .loop x,_::p=>sub x p
 | .scope x,_::p=>sub x p
 | _,_=>.skip
def mutsD:Op->Bool
 | .store .. =>true
 | .call { callee:=.builtin .append,.. }| .call { callee:=.builtin .copy,.. }| .call { callee:=.builtin .clear,.. }=>true
 | _=>false
def LoopLfp (P:Program) (body:Code) (R:Exit->Act->World->Prop) (a:Act) (w:World):Prop:=
 ∀ I:Act->World->Prop,(∀ a w,body.wpIn Fence.wide 0 P (Exit.then I R) a w->I a w)->I a w
structure LoopP (P:Program) (Ω:Option Rc) (n0:Nat) (body:Code) (Q:Ex->St->Prop) (S:St):Prop where
 out:∀ w0 mu (ρ0:Env) a w,ρ0.length<=n0->Lift w0 mu ρ0 (fun S'=>S'=S) a w->mu.om=Ω/\okE Ω ρ0->LoopLfp P body (LiftQ w0 mu ρ0 Q) a w
def LiftW (w0:World) (mu:Fm) (ρ0:Env) (Q:Ex->St->Prop):Exit->Act->World->Prop
 | .normal=>LiftR w0 mu ρ0 (Q .normal)
 | .exit id=>LiftR w0 mu ρ0 (Q (.exit id))
 | .ret=>LiftR w0 mu ρ0 (Q .ret)
 | _=>fun _ _=>False
def LoopLfpR (ro:Option Nat) (P:Program) (body:Code) (R:Exit->Act->World->Prop) (a:Act) (w:World):Prop:=
 ∀ I:Act->World->Prop,(∀ a w,body.wpIn (fW ro) 0 P (Exit.then I R) a w->I a w)->I a w
structure LoopR (P:Program) (Ω:Option Rc) (n0:Nat) (body:Code) (Q:Ex->St->Prop) (S:St):Prop where
 out:∀ ro w0 mu (ρ0:Env) a w,ρ0.length<=n0->Lift w0 mu ρ0 (fun S'=>S'=S) a w->mu.om=Ω/\okE Ω ρ0->LoopLfpR ro P body (LiftQ w0 mu ρ0 Q) a w/\LoopLfpR ro P body (LiftW w0 mu ρ0 Q) a w
structure CutP (P:Program) (Ω:Option Rc) (n0:Nat) (c:Code) (Q:Ex->St->Prop) (S:St):Prop where
 out:∀ w0 mu (ρ0:Env) a w,ρ0.length<=n0->Lift w0 mu ρ0 (fun S'=>S'=S) a w->mu.om=Ω/\okE Ω ρ0->c.wpIn Fence.wide 0 P (LiftQ w0 mu ρ0 Q) a w
def assigned:Code->List Nat
 | .region _ ops _=>ops.toList.filterMap (·.dst)
 | .seq x y=>assigned x++assigned y
 | .cond _ x y=>assigned x++assigned y
 | .block _ x=>assigned x
 | .loop x=>assigned x
 | .scope x=>assigned x
 | _=>[]
structure Opt where
 /-- how often a loop is unrolled -/
 unroll:Nat
 /-- the slots that a loop's rounds hand on -/
 carry:List Nat
 /-- the boxes that were there when the function was entered -/
 base:Nat:=0
 /-- the regions at which a text is cut -/
 cuts:List Nat:=[]
 /-- the record of the loop whose rounds a call of yield runs -/
 om:Option Rc:=none
 /-- the text of a round -/
 rnd:Bool:=false
 /-- how often a loop is unrolled in a call that is walked in place, besides -/
 unrollC:Nat:=0
def headId:Code->Option Nat
 | .region id _ _=>some id
 | .seq x _=>headId x
 | .block _ x=>headId x
 | .loop x=>headId x
 | .scope x=>headId x
 | _=>none
def cutAt (o:Opt) (y:Code):Bool:=
 match o.cuts with
 | []=>false
 | l=>match headId y with
  | some id=>l.contains id
  | none=>false
def cutC (o:Opt) (x:Code):Bool:=o.om.isSome&& !o.rnd&&cutAt o x
def dropOf (o:Opt) (body:Code):List Nat:=(assigned body).filter fun d=> !o.carry.contains d
structure Cx where
 P:Program
 /-- calls of these functions are walked in place -/
 inl:FuncId->Bool
 tab:FuncId->List SV->Mem->(SV->Mem->Prop)->Prop
 /-- functions that are handed boxes, and their contracts -/
 isB:FuncId->Bool
 tabB:CallT
 opt:Opt
 /-- which operations may change memory that is read beside them -/
 muts:Op->Bool
 /-- the round of a loop over a function -/
 tabY:List SV->List Box->Mem->KT->Prop:=fun _ _ _ _=>False
def iterW (bodyW:(Ex->St->Prop)->St->Prop) (fb:(Ex->St->Prop)->St->Prop):Nat->(Ex->St->Prop)->St->Prop
 | 0,Q,S=>fb Q S
 | n+1,Q,S=>bodyW (fun e S'=>match e with | .normal=>iterW bodyW fb n Q S'| .exit id=>Q (.exit id) S'| .ret=>Q .ret S') S
def noDefer (ops:Array Oper):Bool:=ops.toList.all fun o=>match o.op with
 | .defer _=>false
 | _=>true
def codeW (P:Program) (callW:CallT) (inl:Op->Bool) (un:Opt):Code->(Ex->St->Prop)->St->Prop
 | .skip,Q,S=>Q .normal S
 | .region _ ops false,Q,S=>opsW P callW ops ops.toList S (Q .normal)
 | .region _ ops true,Q,S=>bif un.rnd&& !noDefer ops then False else if Region.noSelect ops then drawW P callW ops (tailOf inl ops) ops.size (Array.replicate ops.size false) S (Q .normal) else False
 | .seq x y,Q,S=>codeW P callW inl un x (fun e S'=>match e with | .normal=>(bif cutAt un y&& !un.rnd then CutP P un.om un.base y Q S' else codeW P callW inl un y Q S')| .exit id=>Q (.exit id) S'| .ret=>Q .ret S') S
 | .cond c x y,Q,S=>match opd S c with
  | some (.raw (.bool b))=>cond b (bif cutC un x then CutP P un.om un.base x Q S else codeW P callW inl un x Q S) (codeW P callW inl un y Q S)
  | _=>False
 | .block id body,Q,S=>codeW P callW inl un body (fun e S'=>match e with | .normal=>Q .normal S'| .exit i=>if i=id then Q .normal S' else Q (.exit i) S'| .ret=>Q .ret S') S
 | .scope body,Q,S=>codeW P callW inl un body Q S
 | .label _,Q,S=>Q .normal S
 | .loop body,Q,S=>bif un.rnd then LoopR P un.om un.base body Q (S.forget (dropOf un body)) else iterW (codeW P callW inl un body) (fun Q S=>LoopP P un.om un.base body Q (S.forget (dropOf un body))) un.unroll Q S
 | .exit id,Q,S=>Q (.exit id) S
 | .ret,Q,S=>Q .ret S
 | .rangeFunc g ps assign body,Q,S=>bif un.rnd then False else CutP P un.om un.base (.rangeFunc g ps assign body) Q S
 | _,_,_=>False
def contQ (P:Program) (callW:CallT) (inl:Op->Bool) (un:Opt):Code->List Nat->(Ex->St->Prop)->(Ex->St->Prop)
 | _,[],Q=>Q
 | .seq x y,0::p,Q=>contQ P callW inl un x p (fun e S'=>match e with | .normal=>(bif cutAt un y&& !un.rnd then CutP P un.om un.base y Q S' else codeW P callW inl un y Q S')| .exit id=>Q (.exit id) S'| .ret=>Q .ret S')
 | .seq _ y,_::p,Q=>contQ P callW inl un y p Q
 | .cond _ x _,0::p,Q=>contQ P callW inl un x p Q
 | .cond _ _ y,_::p,Q=>contQ P callW inl un y p Q
 | .block id x,_::p,Q=>contQ P callW inl un x p (fun e S'=>match e with | .normal=>Q .normal S'| .exit i=>if i=id then Q .normal S' else Q (.exit i) S'| .ret=>Q .ret S')
 | .scope x,_::p,Q=>contQ P callW inl un x p Q
 | .loop x,_::p,Q=>contQ P callW inl un x p (fun e S'=>match e with | .normal=>LoopP P un.om un.base x Q (S'.forget (dropOf un x))| .exit id=>Q (.exit id) S'| .ret=>Q .ret S')
 | _,_,Q=>Q
def bodyOf (fn:Func):Code:=match fn.body with |some c=>c|none=>.skip
def retVar (P:Program) (S:St):ResultVar->Option SV
 | .tmp t=>opd S (.tmp t)
 | .cell t T=>match opd S (.tmp t) with
  | some (.loc b off)=>match S.bx[b]? with
   | some y=>loadW P T y.cells off
   | none=>none
  | _=>none
def retVars (P:Program) (S:St):List ResultVar->Option (List SV)
 | []=>some []
 | x::l=>match retVar P S x,retVars P S l with
  | some s,some ss=>some (s::ss)
  | _,_=>none
def retW (P:Program) (fn:Func) (S:St) (K:KT):Prop:=
 match retVars P S fn.results.toList with
 | some [s]=>K s S.bx S.E
 | some ss=>K (.tup ss) S.bx S.E
 | none=>False
def bodyQ (P:Program) (fn:Func) (K:KT):Ex->St->Prop
 | .normal,S| .ret,S=>retW P fn S K
 | .exit _,_=>False
def enterW (P:Program) (callW:CallT) (inl:Op->Bool) (un:Opt) (fn:Func) (args:List SV) (bx:List Box) (E:Mem) (K:KT):Prop:=
 match fn.body with
 | some c=>if (args.length<=fn.ntmps/\(un.om.isNone||fn.results.toList.isEmpty)=true) then codeW P callW inl { un with base:=bx.length,rnd:=false } c (bodyQ P fn K) { fr:=args.map some++List.replicate (fn.ntmps-args.length) none,bx:=bx,E:=E } else False
 | none=>False
def tabF (C:Cx):CallT:=fun f args bx E K=>
 if f=YID then (match C.opt.om with |none=>False|some _=>C.tabY args bx E K) else if C.isB f=true then C.tabB f args bx E K else pubW 16 args bx E fun args' bx' E'=>C.tab f args' E' fun s E''=>K s bx' E''
def Cx.noY (C:Cx):Cx:=match C.opt.om with
 | none=>C
 | some _=>{ C with opt:={ C.opt with om:=none } }
def callF (C:Cx):Nat->CallT
 | 0=>tabF C
 | n+1=>fun f args bx E K=>
  if (C.inl f&&f !=YID)=true then
   match C.P.funcs[f]? with
   | some fn=>enterW C.P (callF C.noY n) C.muts { C.opt with cuts:=[],om:=none,unroll:=C.opt.unroll+C.opt.unrollC } fn args bx E K
   | none=>False
  else tabF C f args bx E K
end Go.Sx
