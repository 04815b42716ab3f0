/- Walks and plain laws. Conditions: none. -/
import Derived.Test.YtdaakdbkmjgloaaGreatDz4
namespace Go.Proofs.YtdaakdbkmjgloaaGreat.CustodyOwn
open Go Go.Sx
set_option maxRecDepth 100000
set_option maxHeartbeats 4000000
set_option linter.all false
variable {E:Mem} {K:SV->Mem->Prop}
variable {zs:List Int} {s me o n a1 a6 a7:Int} {xs:List (List Int)} {st:List (List Int)×Int} {b2:Option Addr} {c4 l3:Nat}
theorem take_ref {k v a:Int} {cnt:Int} (h:heldF me s zs=((xs,cnt),0)) (g1:okR o n k v a=true) (g2:xs.any (isN o n)=false) (g3:¬ (o=me/\n<=cnt)) (g4:xs.length≠16) {ms:List (Int×List Int)} {e:Int} (q:appendF s zs (recB [1,o,n,k,v,a])=(ms,e)):
  takeF me s zs o n k v a=if e=10 then compactF s zs (keepF (xs++[[o,n,k,v,a]],if o=me then n else cnt)) else (ms,e):=by
 have i2:¬ 0<=idxR o n xs:=fun w=>by rw [idx_any.1 w] at g2;cases g2
 have ap:=app_take (me:=me) (st:=(xs,cnt)) g1 (Int.not_le.1 i2) g4
 have em:(if o=me then mx n cnt else cnt)=if o=me then n else cnt:=by
  split
  ·rename_i w;unfold mx;rw [if_pos (Int.not_le.1 fun w2=>g3 ⟨w,w2⟩)]
  ·rfl
 have ap:appF me (xs,cnt) [1,o,n,k,v,a]=some (xs++[[o,n,k,v,a]],if o=me then mx n cnt else cnt):=ap
 rw [em] at ap
 unfold takeF
 rw [h]
 rw [if_neg (by simp),if_neg (by rw [g1];simp),if_neg i2,if_neg g3,if_neg g4]
 unfold writeF
 rw [q,nums_rec (okN_take g1)]
 simp only [ap]
theorem give_ref {cnt:Int} (h:heldF me s zs=((xs,cnt),0)) (g:xs.any (isN o n)=true) {ms:List (Int×List Int)} {e:Int} (q:appendF s zs (recB [2,o,n])=(ms,e)):
  giveF me s zs o n=if e=10 then compactF s zs (keepF (xs.filter (fun x=> !isN o n x),cnt)) else (ms,e):=by
 have i2:0<=idxR o n xs:=idx_any.2 g
 have I:=held_inv h
 obtain ⟨i,x,ei,hx,hp⟩:=idxR_nonneg i2
 have px:=isN_iff.1 hp
 have okx:=okR_iff.1 (I.ok x (List.mem_of_getElem? hx))
 rw [px.1,px.2] at okx
 have ap:=app_give (me:=me) (st:=(xs,cnt)) i2
 rw [show xs.eraseIdx _=_ from erase_filter I i2] at ap
 unfold giveF
 rw [h]
 rw [if_neg (by simp),if_neg (Int.not_lt.2 i2)]
 unfold writeF
 rw [q,nums_rec (okN_give ⟨okx.1,okx.2.1⟩)]
 simp only [ap]
theorem inv_ok (I:Inv me st):∀ x∈st.1,∀ z∈x,okN z:=fun x hx z hz=>by
 rw [five (I.w5 x hx)] at hz
 exact okN_take (I.ok x hx) z (List.mem_cons_of_mem _ hz)
theorem any_okN (I:Inv me st) (g:st.1.any (isN o n)=true):∀ m∈[2,o,n],okN m:=by
 obtain ⟨x,hx,hp⟩:=List.any_eq_true.1 g
 have px:=isN_iff.1 hp
 have okx:=okR_iff.1 (I.ok x hx)
 rw [px.1,px.2] at okx
 exact okN_give ⟨okx.1,okx.2.1⟩
theorem cnt_okN (I:Inv me st):okN st.2:=by
 have:=I.cnt
 unfold okN;omega
theorem keep_bd (h:W5 st.1):(∀ d∈keepF st,d.length<=60000)/\(keepF st).length<=st.1.length+1:=by
 constructor
 ·intro d hd
  unfold keepF at hd
  rcases List.mem_append.1 hd with hd|hd
  ·split at hd
   ·rw [List.mem_singleton.1 hd]
    have:=recB_len [3,st.2]
    simp at this;omega
   ·cases hd
  ·obtain ⟨r,hr,rfl⟩:=List.mem_map.1 hd
   have:=recB_len (1::r)
   rw [List.length_cons,h r hr] at this
   omega
 ·unfold keepF
  split<;>simp
theorem held_sem {bx:List Box} {b:Option Addr} {l c:Nat} {K:KT} (hB:Bs E b l c zs) (hE:(∀ (e:Int) (E':Mem),Mem.le E E'->Hyp (heldF me s zs=(([],0),e))->Hyp (e≠0)->K (.tup [L none 0 0,I 0,I e]) bx E')) (hS:(∀ (xs:List (List Int)) (cnt:Int) (m cap tot:Nat) (js:List Value) (E':Mem),Mem.le E E'->Hyp (heldF me s zs=((xs,cnt),0))->xs.length=m->m<=cap->cap*5<=tot->(∀ v∈js,v.oneCell'=true)->K (.tup [.slc bx.length 0 m cap,I cnt,I 0]) (bx++[⟨26,.vals (vR xs++js),tot,true⟩]) E')):CallSem Tryz.prog 6 [.agg [I s,L b l c],I me] bx E K:=by
 refine frame0 (vs:=[_,_]) rfl (EntB.sem okR8 Tryz.func6 ⟨by kernel_rfl,by kernel_rfl⟩ (v6 (KK:=fun s bx' E'=>K (s.ren [] bx.length) (bx++bx'.map (Box.ren [] bx.length)) E') hB ?_ ?_ (fun _ _ _ q=>q))).clo (fun _ _ _ q=>q)
 ·intro e E' k q1 q2
  simpa [SV.ren,SV.renL] using hE e E' k q1 q2
 ·intro xs cnt m cap tot js E' k q1 hx hc hj
  have:=hS xs cnt m cap tot js E' k q1 hx hc.1 hc.2 hj
  simpa [SV.ren,SV.renL,Box.ren,Row.ren,renF,Nat.add_comm] using this
def tabTz:CallT:=fun f args bx E K=>match f with
 | 6=>(match args with | [.agg [.raw (.int .i64 s),.raw (.slice b l c)],.raw (.int .i64 me)]=>∃ zs:List Int,Bs E b l c zs/\(∀ (e:Int) (E':Mem),Mem.le E E'->Hyp (heldF me s zs=(([],0),e))->Hyp (e≠0)->K (.tup [L none 0 0,I 0,I e]) bx E')/\(∀ (xs:List (List Int)) (cnt:Int) (m cap tot:Nat) (js:List Value) (E':Mem),Mem.le E E'->Hyp (heldF me s zs=((xs,cnt),0))->xs.length=m->m<=cap->cap*5<=tot->(∀ v∈js,v.oneCell'=true)->K (.tup [.slc bx.length 0 m cap,I cnt,I 0]) (bx++[⟨26,.vals (vR xs++js),tot,true⟩]) E')|_=>False)
 | 26=>d3 args fun x0 x1 x2=>dI x1 fun o=>dI x2 fun n=>(match x0 with | .slc b 0 m cap=>∃ (tot:Nat) (xs:List (List Int)) (js:List Value),bx[b]? =some ⟨26,.vals (vR xs++js),tot,true⟩/\W5 xs/\xs.length=m/\m<=1000/\K (B (xs.any (isN o n))) bx E|_=>False)
 | 34=>d3 args fun x0 x1 x2=>dI x1 fun o=>dI x2 fun n=>(match x0 with | .slc b 0 m cap=>∃ (tot:Nat) (xs:List (List Int)) (js:List Value),bx[b]? =some ⟨26,.vals (vR xs++js),tot,true⟩/\W5 xs/\xs.length=m/\m<=1000/\(∀ (k kcap ktot:Nat),(xs.filter fun x=> !isN o n x).length=k->k<=kcap->kcap*5<=ktot->K (.slc bx.length 0 k kcap) (bx++[⟨26,.vals (vR (xs.filter fun x=> !isN o n x)),ktot,true⟩]) E)|_=>False)
 | _=>False
theorem tabTz_ok (f:FuncId) (args:List SV) (bx:List Box) (E:Mem) (K:KT) (h:tabTz f args bx E K):CallSem Tryz.prog f args bx E K:=by
 unfold tabTz at h
 split at h
 ·split at h
  case h_2=>exact h.elim
  obtain ⟨zs,h1,h2,h3⟩:=h
  exact held_sem h1 h2 h3
 ·skip
  replace h:=d3_elim h
  obtain ⟨x0,x1,x2,rfl,h⟩:=h
  replace h:=dI_elim h
  obtain ⟨o,rfl,h⟩:=h
  replace h:=dI_elim h
  obtain ⟨n,rfl,h⟩:=h
  split at h
  case h_2=>exact h.elim
  obtain ⟨tot,xs,js,h1,h2,h3,h4,h5⟩:=h
  exact has_sem h1 h2 h3 h4 h5
 ·skip
  replace h:=d3_elim h
  obtain ⟨x0,x1,x2,rfl,h⟩:=h
  replace h:=dI_elim h
  obtain ⟨o,rfl,h⟩:=h
  replace h:=dI_elim h
  obtain ⟨n,rfl,h⟩:=h
  split at h
  case h_2=>exact h.elim
  obtain ⟨tot,xs,js,h1,h2,h3,h4,h5⟩:=h
  exact without_sem h1 h2 h3 h4 h5
 ·exact h.elim
noncomputable def tabTzp:FuncId->List SV->Mem->(SV->Mem->Prop)->Prop:=fun f args E K=>match f with
 | 25=>d1 args fun x0=>dC x0 fun l1=>d5 l1 fun x0_0 x0_1 x0_2 x0_3 x0_4=>dI x0_0 fun a1=>dI x0_1 fun a2=>dI x0_2 fun a3=>dI x0_3 fun a4=>dI x0_4 fun a5=>(K (B (okR a1 a2 a3 a4 a5)) E)
 | 27=>d2 args fun x0 x1=>dC x0 fun l1=>d2 l1 fun x0_0 x0_1=>dI x0_0 fun a1=>dS x0_1 fun b2 l3 c4=>dS x1 fun b5 l6 c7=>∃ (zs:List Int) (ds:List Int),Bs E b2 l3 c4 zs/\Bs E b5 l6 c7 ds/\l6<=60000/\(∀ (b':Option Addr) (l' c':Nat) (ms:List (Int×List Int)) (e:Int) (E':Mem),Mem.le E E'->Hyp (appendF a1 zs ds=(ms,e))->FL E' b' l' c' ms->K (.tup [L b' l' c',I e]) E')
 | 29=>d2 args fun x0 x1=>dC x0 fun l1=>d2 l1 fun x0_0 x0_1=>dI x0_0 fun a1=>dS x0_1 fun b2 l3 c4=>dS x1 fun b5 l6 c7=>∃ (zs:List Int) (keep:List (List Int)),Bs E b2 l3 c4 zs/\BL E b5 l6 c7 keep/\(∀ d∈keep,d.length<=60000)/\l6<=1000/\(∀ (b':Option Addr) (l' c':Nat) (ms:List (Int×List Int)) (e:Int) (E':Mem),Mem.le E E'->Hyp (compactF a1 zs keep=(ms,e))->FL E' b' l' c' ms->K (.tup [L b' l' c',I e]) E')
 | 28=>d1 args fun x0=>dC x0 fun l1=>d5 l1 fun x0_0 x0_1 x0_2 x0_3 x0_4=>dI x0_0 fun a1=>dI x0_1 fun a2=>dI x0_2 fun a3=>dI x0_3 fun a4=>dI x0_4 fun a5=>(∀ m∈[1,a1,a2,a3,a4,a5],okN m)/\(∀ (b':Option Addr) (l' c':Nat) (ys:List Int) (E':Mem),Mem.le E E'->Hyp (ys=recB [1,a1,a2,a3,a4,a5])->Bs E' b' l' c' ys->K (L b' l' c') E')
 | 33=>d1 args fun x0=>dS x0 fun b1 l2 c3=>∃ (zs:List Int),SL (RK .i64 1) E b1 l2 c3 (zs.map fun z=>[z])/\l2<=100/\(∀ n∈zs,okN n)/\(∀ (b':Option Addr) (l' c':Nat) (ys:List Int) (E':Mem),Mem.le E E'->Hyp (ys=recB zs)->Bs E' b' l' c' ys->K (L b' l' c') E')
 | 30=>d2 args fun x0 x1=>dS x0 fun b1 l2 c3=>dI x1 fun a4=>∃ (xs:List (List Int)),SL (RK .i64 5) E b1 l2 c3 xs/\l2<=20/\(∀ x∈xs,∀ m∈x,okN m)/\okN a4/\(∀ (b':Option Addr) (l' c':Nat) (ds:List (List Int)) (E':Mem),Mem.le E E'->Hyp (ds=keepF (xs,a4))->BL E' b' l' c' ds->K (L b' l' c') E')
 | _=>False
theorem tabTzp_ok:TabOK Tryz.prog tabTzp:=by
 intro f args E K h
 unfold tabTzp at h
 split at h
 ·replace h:=d1_elim h
  obtain ⟨x0,rfl,h⟩:=h
  replace h:=dC_elim h
  obtain ⟨l1,hl1,h⟩:=h
  replace h:=d5_elim h
  obtain ⟨x0_0,x0_1,x0_2,x0_3,x0_4,rfl,h⟩:=h
  replace h:=dI_elim h
  obtain ⟨a1,rfl,h⟩:=h
  replace h:=dI_elim h
  obtain ⟨a2,rfl,h⟩:=h
  replace h:=dI_elim h
  obtain ⟨a3,rfl,h⟩:=h
  replace h:=dI_elim h
  obtain ⟨a4,rfl,h⟩:=h
  replace h:=dI_elim h
  obtain ⟨a5,rfl,h⟩:=h
  exact TabSem.congr (valL_cons (asCells_val hl1) rfl) (Ent.sem okQ1 Tryz.func25 ⟨by kernel_rfl,by kernel_rfl⟩ rfl (c14 h))
 ·replace h:=d2_elim h
  obtain ⟨x0,x1,rfl,h⟩:=h
  replace h:=dC_elim h
  obtain ⟨l1,hl1,h⟩:=h
  replace h:=d2_elim h
  obtain ⟨x0_0,x0_1,rfl,h⟩:=h
  replace h:=dI_elim h
  obtain ⟨a1,rfl,h⟩:=h
  replace h:=dS_elim h
  obtain ⟨b2,l3,c4,rfl,h⟩:=h
  replace h:=dS_elim h
  obtain ⟨b5,l6,c7,rfl,h⟩:=h
  obtain ⟨zs,ds,g0,g1,g2,h⟩:=h
  exact TabSem.congr (valL_cons (asCells_val hl1) (valL_cons rfl rfl)) (Ent.sem okKB Tryz.func27 ⟨by kernel_rfl,by kernel_rfl⟩ rfl (j18 g0 g1 g2 h))
 ·replace h:=d2_elim h
  obtain ⟨x0,x1,rfl,h⟩:=h
  replace h:=dC_elim h
  obtain ⟨l1,hl1,h⟩:=h
  replace h:=d2_elim h
  obtain ⟨x0_0,x0_1,rfl,h⟩:=h
  replace h:=dI_elim h
  obtain ⟨a1,rfl,h⟩:=h
  replace h:=dS_elim h
  obtain ⟨b2,l3,c4,rfl,h⟩:=h
  replace h:=dS_elim h
  obtain ⟨b5,l6,c7,rfl,h⟩:=h
  obtain ⟨zs,keep,g0,g1,g2,g3,h⟩:=h
  exact TabSem.congr (valL_cons (asCells_val hl1) (valL_cons rfl rfl)) (Ent.sem okKB Tryz.func29 ⟨by kernel_rfl,by kernel_rfl⟩ rfl (j20 g0 g1 g2 g3 h))
 ·replace h:=d1_elim h
  obtain ⟨x0,rfl,h⟩:=h
  replace h:=dC_elim h
  obtain ⟨l1,hl1,h⟩:=h
  replace h:=d5_elim h
  obtain ⟨x0_0,x0_1,x0_2,x0_3,x0_4,rfl,h⟩:=h
  replace h:=dI_elim h
  obtain ⟨a1,rfl,h⟩:=h
  replace h:=dI_elim h
  obtain ⟨a2,rfl,h⟩:=h
  replace h:=dI_elim h
  obtain ⟨a3,rfl,h⟩:=h
  replace h:=dI_elim h
  obtain ⟨a4,rfl,h⟩:=h
  replace h:=dI_elim h
  obtain ⟨a5,rfl,h⟩:=h
  obtain ⟨g0,h⟩:=h
  exact TabSem.congr (valL_cons (asCells_val hl1) rfl) (Ent.sem okR2 Tryz.func28 ⟨by kernel_rfl,by kernel_rfl⟩ rfl (zr28 g0 h))
 ·replace h:=d1_elim h
  obtain ⟨x0,rfl,h⟩:=h
  replace h:=dS_elim h
  obtain ⟨b1,l2,c3,rfl,h⟩:=h
  obtain ⟨zs,g0,g1,g2,h⟩:=h
  exact TabSem.congr (valL_cons rfl rfl) (Ent.sem okR1 Tryz.func33 ⟨by kernel_rfl,by kernel_rfl⟩ rfl (zr33 g0 g1 g2 h))
 ·replace h:=d2_elim h
  obtain ⟨x0,x1,rfl,h⟩:=h
  replace h:=dS_elim h
  obtain ⟨b1,l2,c3,rfl,h⟩:=h
  replace h:=dI_elim h
  obtain ⟨a4,rfl,h⟩:=h
  obtain ⟨xs,g0,g1,g2,g3,h⟩:=h
  exact TabSem.congr (valL_cons rfl (valL_cons rfl rfl)) (Ent.sem okR6 Tryz.func30 ⟨by kernel_rfl,by kernel_rfl⟩ rfl (zr30 g0 g1 g2 g3 h))
 ·exact h.elim
noncomputable def R9:Cx:={ P:=Tryz.prog,inl:=fun f=>List.contains [] f,tab:=tabTzp,isB:=fun f=>f==6||f==26||f==34,tabB:=tabTz,opt:={ unroll:=0,carry:=[9],cuts:=[19] },muts:=(fun o=>match o with | .buildSlice .. =>true| .call { args:=#[.tmp 46,.tmp 47,.tmp 48],.. }=>true|o=>mutsD o) }
theorem okR9:CxOK R9:=CxOK.four tabTzp_ok (by kernel_rfl) (okInl (by kernel_rfl)) tabTz_ok
def wc9 (a1 a6 a7 a8 a9 a10 cn:Int) (b2:Option Addr) (l3 c4 m cap tot:Nat) (xs:List (List Int)) (js:List Value) (E:Mem):St:=⟨[none,none,none,oc 0 0,none,oc 1 0,none,none,os 2 0 m cap,oI cn]++nn 66,[⟨24,.lst [I a1,L b2 l3 c4],2,true⟩,⟨26,.lst [I a6,I a7,I a8,I a9,I a10],5,true⟩,⟨26,.vals (vR xs++js),tot,true⟩],E⟩
theorem pz9 {a8 a9 a10 cn:Int} {m cap tot:Nat} {js:List Value} {E0:Mem} (hB:Bs E b2 l3 c4 zs) (w5:W5 xs) (hm:xs.length=m) (h16:m<=16) (hc:m<=cap/\cap*5<=tot) (ok:∀ x∈xs,∀ z∈x,okN z) (okr:∀ z∈[a6,a7,a8,a9,a10],okN z) (okc:okN cn) (hE:Mem.le E0 E)
  (h:∀ (b':Option Addr) (l' c':Nat) (ms:List (Int×List Int)) (e:Int) (E':Mem),Mem.le E0 E'->Hyp (compactF a1 zs (keepF (xs++[[a6,a7,a8,a9,a10]],cn))=(ms,e))->FL E' b' l' c' ms->K (.tup [L b' l' c',I e]) E'):Pc R9 8 Tryz.f9 [1,1,1,1,1,1,1,1,1,1,1,1] 0 (pubK E0 K) (wc9 a1 a6 a7 a8 a9 a10 cn b2 l3 c4 m cap tot xs js E):=by
 refine sm_ (?_:(m*5<=List.length (Row.cells (Row.vals (vR xs++js)))/\cap*5<=tot/\m<=cap/\req ((m+1)*40<=140737488355328) (∀ (cap' tot':Nat),m+1<=cap'->cap'*5<=tot'->∀ (base:Option Addr) (E':Mem),Mem.le E E'->WinE E' base (List.take (m*5) (vR xs++js)++[Value.int IntKind.i64 a6,Value.int IntKind.i64 a7,Value.int IntKind.i64 a8,Value.int IntKind.i64 a9,Value.int IntKind.i64 a10])->∃ (xs:List (List Int)),SL (RK IntKind.i64 5) E' (Option.map (fun (x:Addr)=>Addr.add x 0) base) (m+1) cap' xs/\m+1<=20/\(∀ (x:List Int),List.Mem x xs->∀ (m:Int),List.Mem m x->okN m)/\okN cn/\∀ (b':Option Addr) (l' c':Nat) (ds:List (List Int)) (E'_1:Mem),Mem.le E' E'_1->Hyp (ds=keepF (xs,cn))->BL E'_1 b' l' c' ds->∃ (zs:List Int),∃ (keep:List (List Int)),Bs E'_1 b2 l3 c4 zs/\BL E'_1 b' l' c' keep/\(∀ (d:List Int),List.Mem d keep->List.length d<=60000)/\l'<=1000/\∀ (b':Option Addr) (l' c':Nat) (ms:List (Int×List Int)) (e:Int) (E':Mem),Mem.le E'_1 E'->Hyp (compactF a1 zs keep=(ms,e))->FL E' b' l' c' ms->Mem.le E'_1 E'/\Sx.Alike al2 (Mem.le E0 E'/\K (SV.tup [L b' l' c',I e]) E')))/\(m*5<=List.length (Row.cells (Row.vals (vR xs++js)))/\cap*5<=tot/\m<=cap/\req ((m+1)*40<=140737488355328) (∀ (cap' tot':Nat),m+1<=cap'->cap'*5<=tot'->∀ (base:Option Addr) (E':Mem),Mem.le E E'->WinE E' base (List.take (m*5) (vR xs++js)++[Value.int IntKind.i64 a6,Value.int IntKind.i64 a7,Value.int IntKind.i64 a8,Value.int IntKind.i64 a9,Value.int IntKind.i64 a10])->∃ (xs:List (List Int)),SL (RK IntKind.i64 5) E' (Option.map (fun (x:Addr)=>Addr.add x 0) base) (m+1) cap' xs/\m+1<=20/\(∀ (x:List Int),List.Mem x xs->∀ (m:Int),List.Mem m x->okN m)/\okN cn/\∀ (b':Option Addr) (l' c':Nat) (ds:List (List Int)) (E'_1:Mem),Mem.le E' E'_1->Hyp (ds=keepF (xs,cn))->BL E'_1 b' l' c' ds->∃ (zs:List Int),∃ (keep:List (List Int)),Bs E'_1 b2 l3 c4 zs/\BL E'_1 b' l' c' keep/\(∀ (d:List Int),List.Mem d keep->List.length d<=60000)/\l'<=1000/\∀ (b':Option Addr) (l' c':Nat) (ms:List (Int×List Int)) (e:Int) (E':Mem),Mem.le E'_1 E'->Hyp (compactF a1 zs keep=(ms,e))->FL E' b' l' c' ms->Mem.le E'_1 E'/\Sx.Alike al2 (Mem.le E0 E'/\K (SV.tup [L b' l' c',I e]) E')))/\m*5<=List.length (Row.cells (Row.vals (vR xs++js)))/\cap*5<=tot/\m<=cap/\req ((m+1)*40<=140737488355328) (∀ (cap' tot':Nat),m+1<=cap'->cap'*5<=tot'->Sx.Alike al2 (∀ (base:Option Addr) (E':Mem),Mem.le E E'->WinE E' base (List.take (m*5) (vR xs++js)++[Value.int IntKind.i64 a6,Value.int IntKind.i64 a7,Value.int IntKind.i64 a8,Value.int IntKind.i64 a9,Value.int IntKind.i64 a10])->∃ (xs:List (List Int)),SL (RK IntKind.i64 5) E' (Option.map (fun (x:Addr)=>Addr.add x 0) base) (m+1) cap' xs/\m+1<=20/\(∀ (x:List Int),List.Mem x xs->∀ (m:Int),List.Mem m x->okN m)/\okN cn/\∀ (b':Option Addr) (l' c':Nat) (ds:List (List Int)) (E'_1:Mem),Mem.le E' E'_1->Hyp (ds=keepF (xs,cn))->BL E'_1 b' l' c' ds->∃ (zs:List Int),∃ (keep:List (List Int)),Bs E'_1 b2 l3 c4 zs/\BL E'_1 b' l' c' keep/\(∀ (d:List Int),List.Mem d keep->List.length d<=60000)/\l'<=1000/\∀ (b':Option Addr) (l' c':Nat) (ms:List (Int×List Int)) (e:Int) (E':Mem),Mem.le E'_1 E'->Hyp (compactF a1 zs keep=(ms,e))->FL E' b' l' c' ms->Mem.le E'_1 E'/\Sx.Alike al2 (Mem.le E0 E'/\K (SV.tup [L b' l' c',I e]) E'))))
 have vl:=vR_len w5
 have eV:List.take (m*5) (vR xs++js)++[Value.int .i64 a6,Value.int .i64 a7,Value.int .i64 a8,Value.int .i64 a9,Value.int .i64 a10]=vR (xs++[[a6,a7,a8,a9,a10]]):=by
  rw [List.take_append_of_le_length (by omega),List.take_of_length_le (by omega)]
  unfold vR;simp
 have c1:m*5<=List.length (Row.cells (Row.vals (vR xs++js))):=by
  show m*5<=((vR xs++js).map SV.raw).length
  rw [List.length_map,List.length_append];omega
 have w5':W5 (xs++[[a6,a7,a8,a9,a10]]):=w5.snoc rfl
 have hok:∀ x:List Int,List.Mem x (xs++[[a6,a7,a8,a9,a10]])->∀ z:Int,List.Mem z x->okN z:=fun x hx z hz=>by
  rcases List.mem_append.1 hx with hx|hx
  ·exact ok x hx z hz
  ·rw [List.mem_singleton.1 hx] at hz;exact okr z hz
 have kb:=keep_bd (st:=(xs++[[a6,a7,a8,a9,a10]],cn)) w5'
 repeat' first|exact c1|exact hc.2|exact hc.1|refine And.intro ?_ ?_|refine req_intro (by omega) fun cap' tot' q1 q2=>?_|refine alike ?_
 all_goals
  refine fun base E1 k1 w1=>⟨xs++[[a6,a7,a8,a9,a10]],vR_win w5' (by simp [hm]) q1 (by rw [← eV];exact w1),by omega,hok,okc,fun b' l' c' ds E2 k2 q3 q4=>⟨zs,ds,hB.mono (mt_ k1 k2),q4,?_,?_,fun b3 l3' c3' ms e E3 k3 q5 q6=>⟨k3,alike ⟨mt_ hE (mt_ k1 (mt_ k2 k3)),h b3 l3' c3' ms e E3 (mt_ hE (mt_ k1 (mt_ k2 k3))) (by rw [← show ds=keepF (xs++[[a6,a7,a8,a9,a10]],cn) from q3];exact q5) q6⟩⟩⟩⟩
  ·rw [show ds=keepF (xs++[[a6,a7,a8,a9,a10]],cn) from q3];exact kb.1
  ·have:=q4.len
   have k2':=kb.2
   rw [← show ds=keepF (xs++[[a6,a7,a8,a9,a10]],cn) from q3] at k2'
   simp at k2';omega
theorem zr9 {a5:Int} {a8:Int} {a9:Int} {a10:Int} (h0:Bs E b2 l3 c4 zs) (h:∀ (b':Option Addr) (l' c':Nat) (ms:List (Int×List Int)) (e:Int) (E':Mem),Mem.le E E'->Hyp (takeF a5 a1 zs a6 a7 a8 a9 a10=(ms,e))->FL E' b' l' c' ms->K (.tup [L b' l' c',I e]) E'):
  Ent R9 8 Tryz.f9 [.agg [I a1,L b2 l3 c4],I a5,.agg [I a6,I a7,I a8,I a9,I a10]] E K:=by
 refine sm_ (?_:∃ (zs:List Int),Bs E b2 l3 c4 zs/\(∀ (e:Int) (E':Mem),Mem.le E E'->Hyp (heldF a5 a1 zs=(([],(0:Int)),e))->Hyp (e≠(0:Int))->Mem.le E E'/\bif e !=(0:Int) then Mem.le E E'/\K (SV.tup [L none 0 0,I e]) E' else Mem.le E' E'/\False)/\∀ (xs:List (List Int)) (cnt:Int) (m cap tot:Nat) (js:List Value) (E':Mem),Mem.le E E'->Hyp (heldF a5 a1 zs=((xs,cnt),(0:Int)))->List.length xs=m->m<=cap->cap*5<=tot->(∀ (v:Value),List.Mem v js->Value.oneCell' v=true)->Mem.le E E'/\Mem.le E' E'/\∃ (tot_1:Nat),∃ (xs_1:List (List Int)),∃ (js_1:List Value),some (⟨26,Row.vals (vR xs++js),tot,true⟩:Box)=some (⟨26,Row.vals (vR xs_1++js_1),tot_1,true⟩:Box)/\W5 xs_1/\List.length xs_1=m/\m<=1000/\bif !okR a6 a7 a8 a9 a10 then Mem.le E E'/\K (SV.tup [L none 0 0,I (1:Int)]) E' else bif List.any xs_1 (isN a6 a7) then Mem.le E E'/\K (SV.tup [L none 0 0,I (5:Int)]) E' else bif a6==a5 then bif bif true then decide (a7<=cnt) else false then Mem.le E E'/\K (SV.tup [L none 0 0,I (14:Int)]) E' else bif decide ((↑m:Int)>=(16:Int)) then Mem.le E E'/\K (SV.tup [L none 0 0,I (10:Int)]) E' else (∀ (m:Int),List.Mem m [(1:Int),a6,a7,a8,a9,a10]->okN m)/\∀ (b':Option Addr) (l' c':Nat) (ys:List Int) (E'_1:Mem),Mem.le E' E'_1->Hyp (ys=recB [(1:Int),a6,a7,a8,a9,a10])->Bs E'_1 b' l' c' ys->Mem.le E' E'_1/\∃ (zs:List Int),∃ (ds:List Int),Bs E'_1 b2 l3 c4 zs/\Bs E'_1 b' l' c' ds/\l'<=60000/\∀ (b'_1:Option Addr) (l'_1 c'_1:Nat) (ms:List (Int×List Int)) (e:Int) (E':Mem),Mem.le E'_1 E'->Hyp (appendF a1 zs ds=(ms,e))->FL E' b'_1 l'_1 c'_1 ms->Mem.le E'_1 E'/\bif e !=(10:Int) then Mem.le E E'/\K (SV.tup [L b'_1 l'_1 c'_1,I e]) E' else bif a6==a5 then Ct R9 8 Tryz.f9 [1,1,1,1,1,1,1,1,1,1,1,1] 0 (pubK E K) { fr:=[some (SV.agg [I a1,L b2 l3 c4]),oI a5,some (SV.agg [I a6,I a7,I a8,I a9,I a10]),oc 0 0,none,oc 1 0,oL none 0 0,oI (0:Int),os 2 0 m cap,oI a7,oI (0:Int),oB (okR a6 a7 a8 a9 a10),oB (List.any xs_1 (isN a6 a7)),oL b'_1 l'_1 c'_1,oI e,some (SV.tup [SV.slc 2 0 m cap,I cnt,I (0:Int)]),some (SV.agg [I a1,L b2 l3 c4]),oI a5,some (SV.tup [SV.slc 2 0 m cap,I cnt,I (0:Int)]),os 2 0 m cap,oI cnt,oI (0:Int),oI (0:Int),oB false,none,some (SV.agg [I a6,I a7,I a8,I a9,I a10]),oB (okR a6 a7 a8 a9 a10),os 2 0 m cap,oc 1 0,oI a6,oc 1 1,oI a7,oB (List.any xs_1 (isN a6 a7)),oB (okR a6 a7 a8 a9 a10),oB (!okR a6 a7 a8 a9 a10),oB (List.any xs_1 (isN a6 a7)),oc 1 0,oI a6,oI a5,oB (a6==a5),oB true,oc 1 1,oI a7,oI cnt,oB (decide (a7<=cnt)),oB (bif true then decide (a7<=cnt) else false),os 2 0 m cap,oI (↑m:Int),oB (decide ((↑m:Int)>=(16:Int))),some (SV.tup [L b'_1 l'_1 c'_1,I e]),some (SV.agg [I a1,L b2 l3 c4]),some (SV.agg [I a6,I a7,I a8,I a9,I a10]),oL b' l' c',some (SV.tup [L b'_1 l'_1 c'_1,I e]),oL b'_1 l'_1 c'_1,oI e,oI e,oB (e !=(10:Int)),none,none,oc 1 0,oI a6,oI a5,oB (a6==a5),oc 1 1,oI a7,none,none,none,none,none,none,none,none,none,none],bx:=[(⟨24,Row.lst [I a1,L b2 l3 c4],2,true⟩:Box),⟨26,Row.lst [I a6,I a7,I a8,I a9,I a10],5,true⟩,⟨26,Row.vals (vR xs++js),tot,true⟩],E:=E':St } else Ct R9 8 Tryz.f9 [1,1,1,1,1,1,1,1,1,1,1,1] 0 (pubK E K) { fr:=[some (SV.agg [I a1,L b2 l3 c4]),oI a5,some (SV.agg [I a6,I a7,I a8,I a9,I a10]),oc 0 0,none,oc 1 0,oL none 0 0,oI (0:Int),os 2 0 m cap,oI cnt,oI (0:Int),oB (okR a6 a7 a8 a9 a10),oB (List.any xs_1 (isN a6 a7)),oL b'_1 l'_1 c'_1,oI e,some (SV.tup [SV.slc 2 0 m cap,I cnt,I (0:Int)]),some (SV.agg [I a1,L b2 l3 c4]),oI a5,some (SV.tup [SV.slc 2 0 m cap,I cnt,I (0:Int)]),os 2 0 m cap,oI cnt,oI (0:Int),oI (0:Int),oB false,none,some (SV.agg [I a6,I a7,I a8,I a9,I a10]),oB (okR a6 a7 a8 a9 a10),os 2 0 m cap,oc 1 0,oI a6,oc 1 1,oI a7,oB (List.any xs_1 (isN a6 a7)),oB (okR a6 a7 a8 a9 a10),oB (!okR a6 a7 a8 a9 a10),oB (List.any xs_1 (isN a6 a7)),oc 1 0,oI a6,oI a5,oB (a6==a5),oB true,oc 1 1,oI a7,oI cnt,oB (decide (a7<=cnt)),oB (bif true then decide (a7<=cnt) else false),os 2 0 m cap,oI (↑m:Int),oB (decide ((↑m:Int)>=(16:Int))),some (SV.tup [L b'_1 l'_1 c'_1,I e]),some (SV.agg [I a1,L b2 l3 c4]),some (SV.agg [I a6,I a7,I a8,I a9,I a10]),oL b' l' c',some (SV.tup [L b'_1 l'_1 c'_1,I e]),oL b'_1 l'_1 c'_1,oI e,oI e,oB (e !=(10:Int)),none,none,oc 1 0,oI a6,oI a5,oB (a6==a5),none,none,none,none,none,none,none,none,none,none,none,none],bx:=[(⟨24,Row.lst [I a1,L b2 l3 c4],2,true⟩:Box),⟨26,Row.lst [I a6,I a7,I a8,I a9,I a10],5,true⟩,⟨26,Row.vals (vR xs++js),tot,true⟩],E:=E':St } else bif decide ((↑m:Int)>=(16:Int)) then Mem.le E E'/\K (SV.tup [L none 0 0,I (10:Int)]) E' else (∀ (m:Int),List.Mem m [(1:Int),a6,a7,a8,a9,a10]->okN m)/\∀ (b':Option Addr) (l' c':Nat) (ys:List Int) (E'_1:Mem),Mem.le E' E'_1->Hyp (ys=recB [(1:Int),a6,a7,a8,a9,a10])->Bs E'_1 b' l' c' ys->Mem.le E' E'_1/\∃ (zs:List Int),∃ (ds:List Int),Bs E'_1 b2 l3 c4 zs/\Bs E'_1 b' l' c' ds/\l'<=60000/\∀ (b'_1:Option Addr) (l'_1 c'_1:Nat) (ms:List (Int×List Int)) (e:Int) (E':Mem),Mem.le E'_1 E'->Hyp (appendF a1 zs ds=(ms,e))->FL E' b'_1 l'_1 c'_1 ms->Mem.le E'_1 E'/\bif e !=(10:Int) then Mem.le E E'/\K (SV.tup [L b'_1 l'_1 c'_1,I e]) E' else bif a6==a5 then Ct R9 8 Tryz.f9 [1,1,1,1,1,1,1,1,1,1,1,1] 0 (pubK E K) { fr:=[some (SV.agg [I a1,L b2 l3 c4]),oI a5,some (SV.agg [I a6,I a7,I a8,I a9,I a10]),oc 0 0,none,oc 1 0,oL none 0 0,oI (0:Int),os 2 0 m cap,oI a7,oI (0:Int),oB (okR a6 a7 a8 a9 a10),oB (List.any xs_1 (isN a6 a7)),oL b'_1 l'_1 c'_1,oI e,some (SV.tup [SV.slc 2 0 m cap,I cnt,I (0:Int)]),some (SV.agg [I a1,L b2 l3 c4]),oI a5,some (SV.tup [SV.slc 2 0 m cap,I cnt,I (0:Int)]),os 2 0 m cap,oI cnt,oI (0:Int),oI (0:Int),oB false,none,some (SV.agg [I a6,I a7,I a8,I a9,I a10]),oB (okR a6 a7 a8 a9 a10),os 2 0 m cap,oc 1 0,oI a6,oc 1 1,oI a7,oB (List.any xs_1 (isN a6 a7)),oB (okR a6 a7 a8 a9 a10),oB (!okR a6 a7 a8 a9 a10),oB (List.any xs_1 (isN a6 a7)),oc 1 0,oI a6,oI a5,oB (a6==a5),oB false,oU,oU,oU,oU,oB false,os 2 0 m cap,oI (↑m:Int),oB (decide ((↑m:Int)>=(16:Int))),some (SV.tup [L b'_1 l'_1 c'_1,I e]),some (SV.agg [I a1,L b2 l3 c4]),some (SV.agg [I a6,I a7,I a8,I a9,I a10]),oL b' l' c',some (SV.tup [L b'_1 l'_1 c'_1,I e]),oL b'_1 l'_1 c'_1,oI e,oI e,oB (e !=(10:Int)),none,none,oc 1 0,oI a6,oI a5,oB (a6==a5),oc 1 1,oI a7,none,none,none,none,none,none,none,none,none,none],bx:=[(⟨24,Row.lst [I a1,L b2 l3 c4],2,true⟩:Box),⟨26,Row.lst [I a6,I a7,I a8,I a9,I a10],5,true⟩,⟨26,Row.vals (vR xs++js),tot,true⟩],E:=E':St } else Ct R9 8 Tryz.f9 [1,1,1,1,1,1,1,1,1,1,1,1] 0 (pubK E K) { fr:=[some (SV.agg [I a1,L b2 l3 c4]),oI a5,some (SV.agg [I a6,I a7,I a8,I a9,I a10]),oc 0 0,none,oc 1 0,oL none 0 0,oI (0:Int),os 2 0 m cap,oI cnt,oI (0:Int),oB (okR a6 a7 a8 a9 a10),oB (List.any xs_1 (isN a6 a7)),oL b'_1 l'_1 c'_1,oI e,some (SV.tup [SV.slc 2 0 m cap,I cnt,I (0:Int)]),some (SV.agg [I a1,L b2 l3 c4]),oI a5,some (SV.tup [SV.slc 2 0 m cap,I cnt,I (0:Int)]),os 2 0 m cap,oI cnt,oI (0:Int),oI (0:Int),oB false,none,some (SV.agg [I a6,I a7,I a8,I a9,I a10]),oB (okR a6 a7 a8 a9 a10),os 2 0 m cap,oc 1 0,oI a6,oc 1 1,oI a7,oB (List.any xs_1 (isN a6 a7)),oB (okR a6 a7 a8 a9 a10),oB (!okR a6 a7 a8 a9 a10),oB (List.any xs_1 (isN a6 a7)),oc 1 0,oI a6,oI a5,oB (a6==a5),oB false,oU,oU,oU,oU,oB false,os 2 0 m cap,oI (↑m:Int),oB (decide ((↑m:Int)>=(16:Int))),some (SV.tup [L b'_1 l'_1 c'_1,I e]),some (SV.agg [I a1,L b2 l3 c4]),some (SV.agg [I a6,I a7,I a8,I a9,I a10]),oL b' l' c',some (SV.tup [L b'_1 l'_1 c'_1,I e]),oL b'_1 l'_1 c'_1,oI e,oI e,oB (e !=(10:Int)),none,none,oc 1 0,oI a6,oI a5,oB (a6==a5),none,none,none,none,none,none,none,none,none,none,none,none],bx:=[(⟨24,Row.lst [I a1,L b2 l3 c4],2,true⟩:Box),⟨26,Row.lst [I a6,I a7,I a8,I a9,I a10],5,true⟩,⟨26,Row.vals (vR xs++js),tot,true⟩],E:=E':St })
 have nil:∀ (e:Int) (E':Mem),Mem.le E E'->takeF a5 a1 zs a6 a7 a8 a9 a10=([],e)->K (.tup [L none 0 0,I e]) E':=fun e E' k q=>h none 0 0 [] e E' k q (FL.nil E')
 refine ⟨zs,h0,fun e E1 k1 q1 q2=>⟨k1,condC (fun _=>⟨k1,nil e E1 k1 ?_⟩) (fun v=>?_)⟩,fun xs cnt m cap tot js E1 k1 q1 hx hc1 hc2 hj=>?_⟩
 ·unfold takeF
  rw [show heldF a5 a1 zs=(([],0),e) from q1];exact if_pos q2
 ·have q2:e≠0:=q2
  exact absurd (by simpa using v) q2
 have q1:heldF a5 a1 zs=((xs,cnt),0):=q1
 have I':=held_inv q1
 have w5:W5 xs:=I'.w5
 have le:xs.length<=16:=I'.le
 have st:takeF a5 a1 zs a6 a7 a8 a9 a10=if okR a6 a7 a8 a9 a10=false then ([],1) else if 0<=idxR a6 a7 xs then ([],5) else if a6=a5/\a7<=cnt then ([],14) else if xs.length=16 then ([],10) else writeF a5 a1 zs (xs,cnt) (recB [1,a6,a7,a8,a9,a10]):=by
  unfold takeF
  rw [q1]
  exact if_neg (by simp)
 refine ⟨k1,mr_,tot,xs,js,rfl,w5,hx,by omega,condC (fun g=>⟨k1,nil 1 E1 k1 (by rw [st,if_pos (by simpa using g)])⟩) (fun g=>?_)⟩
 have g:okR a6 a7 a8 a9 a10=true:=by simpa using g
 rw [if_neg (by rw [g];simp)] at st
 refine condC (fun g2=>⟨k1,nil 5 E1 k1 (by rw [st,if_pos (idx_any.2 g2)])⟩) (fun g2=>?_)
 have g2:xs.any (isN a6 a7)=false:=g2
 rw [if_neg (fun w=>by rw [idx_any.1 w] at g2;cases g2)] at st
 have on:=okN_take g
 have okx:=inv_ok I'
 have okcn:okN (if a6=a5 then a7 else cnt):=by
  split
  ·exact on a7 (by simp)
  ·exact cnt_okN I'
 refine condC (fun g3=>condC (fun g4=>?_) (fun g4=>?_)) (fun g3=>?_)
 ·have g3:a6=a5:=by simpa using g3
  have g4:a7<=cnt:=by simpa using g4
  exact ⟨k1,nil 14 E1 k1 (by rw [st,if_pos ⟨g3,g4⟩])⟩
 ·have g4:¬ a7<=cnt:=by simpa using g4
  have g3e:a6=a5:=by simpa using g3
  have w:¬ (a6=a5/\a7<=cnt):=fun q=>g4 q.2
  refine condC (fun gf=>⟨k1,nil 10 E1 k1 (by rw [st,if_neg w,if_pos (by simp at gf;omega)])⟩) (fun gf=>?_)
  have gf:xs.length≠16:=by simp at gf;omega
  refine ⟨on,fun b' l' c' ys E2 k2 z1 z2=>⟨k2,zs,ys,h0.mono (mt_ k1 k2),z2,?_,fun b3 l3' c3' ms e E3 k3 z3 z4=>⟨k3,?_⟩⟩⟩
  ·have:=z2.2.1
   have rl:=recB_len [1,a6,a7,a8,a9,a10]
   rw [show ys=recB [1,a6,a7,a8,a9,a10] from z1] at this
   simp at rl;omega
  have z3:appendF a1 zs ys=(ms,e):=z3
  rw [show ys=recB [1,a6,a7,a8,a9,a10] from z1] at z3
  have tr:=take_ref q1 g g2 w gf z3
  have k3':Mem.le E E3:=mt_ k1 (mt_ k2 k3)
  refine condC (fun ge=>⟨k3',h b3 l3' c3' ms e E3 k3' (by show takeF _ _ _ _ _ _ _ _=_;rw [tr,if_neg (by simpa using ge)]) z4⟩) (fun ge=>?_)
  have ge:e=10:=by simpa using ge
  rw [if_pos ge] at tr
  refine condC (fun g5=>?_) (fun g5=>absurd g3e (by simpa using g5))
  rw [if_pos g3e] at tr okcn
  exact Ct_re [some 0,some 1,some 2] (Ct_intro okR9 (pz9 (cn:=a7) (h0.mono k3') w5 hx (by omega) ⟨hc1,hc2⟩ okx (fun z hz=>on z (List.mem_cons_of_mem _ hz)) okcn k3' (fun b' l' c' ms e E' k y1 y2=>h b' l' c' ms e E' k (by show takeF _ _ _ _ _ _ _ _=_;rw [tr];exact y1) y2))) (wkG mr_)
 ·have g3:¬ a6=a5:=by simpa using g3
  have w:¬ (a6=a5/\a7<=cnt):=fun q=>g3 q.1
  refine condC (fun gf=>⟨k1,nil 10 E1 k1 (by rw [st,if_neg w,if_pos (by simp at gf;omega)])⟩) (fun gf=>?_)
  have gf:xs.length≠16:=by simp at gf;omega
  refine ⟨on,fun b' l' c' ys E2 k2 z1 z2=>⟨k2,zs,ys,h0.mono (mt_ k1 k2),z2,?_,fun b3 l3' c3' ms e E3 k3 z3 z4=>⟨k3,?_⟩⟩⟩
  ·have:=z2.2.1
   have rl:=recB_len [1,a6,a7,a8,a9,a10]
   rw [show ys=recB [1,a6,a7,a8,a9,a10] from z1] at this
   simp at rl;omega
  have z3:appendF a1 zs ys=(ms,e):=z3
  rw [show ys=recB [1,a6,a7,a8,a9,a10] from z1] at z3
  have tr:=take_ref q1 g g2 w gf z3
  have k3':Mem.le E E3:=mt_ k1 (mt_ k2 k3)
  refine condC (fun ge=>⟨k3',h b3 l3' c3' ms e E3 k3' (by show takeF _ _ _ _ _ _ _ _=_;rw [tr,if_neg (by simpa using ge)]) z4⟩) (fun ge=>?_)
  have ge:e=10:=by simpa using ge
  rw [if_pos ge] at tr
  refine condC (fun g5=>absurd (by simpa using g5) g3) (fun g5=>?_)
  rw [if_neg g3] at tr okcn
  exact Ct_re [some 0,some 1,some 2] (Ct_intro okR9 (pz9 (cn:=cnt) (h0.mono k3') w5 hx (by omega) ⟨hc1,hc2⟩ okx (fun z hz=>on z (List.mem_cons_of_mem _ hz)) okcn k3' (fun b' l' c' ms e E' k y1 y2=>h b' l' c' ms e E' k (by show takeF _ _ _ _ _ _ _ _=_;rw [tr];exact y1) y2))) (wkG mr_)
noncomputable def RA:Cx:={ P:=Tryz.prog,inl:=fun f=>List.contains [] f,tab:=tabTzp,isB:=fun f=>f==6||f==26||f==34,tabB:=tabTz,opt:={ unroll:=0,carry:=[] },muts:=(fun o=>match o with | .buildSlice .. =>true| .call { args:=#[.tmp 46,.tmp 47,.tmp 48],.. }=>true|o=>mutsD o) }
theorem okRA:CxOK RA:=CxOK.four tabTzp_ok (by kernel_rfl) (okInl (by kernel_rfl)) tabTz_ok
theorem zr12 {a5:Int} (h0:Bs E b2 l3 c4 zs) (h:∀ (b':Option Addr) (l' c':Nat) (ms:List (Int×List Int)) (e:Int) (E':Mem),Mem.le E E'->Hyp (giveF a5 a1 zs a6 a7=(ms,e))->FL E' b' l' c' ms->K (.tup [L b' l' c',I e]) E'):
  Ent RA 8 Tryz.f12 [.agg [I a1,L b2 l3 c4],I a5,I a6,I a7] E K:=by
 refine sm_ (?_:∃ (zs:List Int),Bs E b2 l3 c4 zs/\(∀ (e:Int) (E':Mem),Mem.le E E'->Hyp (heldF a5 a1 zs=(([],(0:Int)),e))->Hyp (e≠(0:Int))->Mem.le E E'/\bif e !=(0:Int) then Mem.le E E'/\K (SV.tup [L none 0 0,I e]) E' else False)/\∀ (xs:List (List Int)) (cnt:Int) (m cap tot:Nat) (js:List Value) (E':Mem),Mem.le E E'->Hyp (heldF a5 a1 zs=((xs,cnt),(0:Int)))->List.length xs=m->m<=cap->cap*5<=tot->(∀ (v:Value),List.Mem v js->Value.oneCell' v=true)->Mem.le E E'/\∃ (tot_1:Nat),∃ (xs_1:List (List Int)),∃ (js_1:List Value),some (⟨26,Row.vals (vR xs++js),tot,true⟩:Box)=some (⟨26,Row.vals (vR xs_1++js_1),tot_1,true⟩:Box)/\W5 xs_1/\List.length xs_1=m/\m<=1000/\bif !List.any xs_1 (isN a6 a7) then Mem.le E E'/\K (SV.tup [L none 0 0,I (4:Int)]) E' else Sx.Alike (AlikeT.n AlikeT.l al2) (∀ (base:Option Addr) (E'_1:Mem),Mem.le E' E'_1->WinE E'_1 base [Value.int IntKind.i64 (2:Int),Value.int IntKind.i64 a6,Value.int IntKind.i64 a7]->∃ (zs:List Int),SL (RK IntKind.i64 1) E'_1 (Option.map (fun (x:Addr)=>Addr.add x 0) base) 3 3 (List.map (fun (z:Int)=>[z]) zs)/\3<=100/\(∀ (n:Int),List.Mem n zs->okN n)/\∀ (b':Option Addr) (l' c':Nat) (ys:List Int) (E':Mem),Mem.le E'_1 E'->Hyp (ys=recB zs)->Bs E' b' l' c' ys->∃ (zs:List Int),∃ (ds:List Int),Bs E' b2 l3 c4 zs/\Bs E' b' l' c' ds/\l'<=60000/\∀ (b':Option Addr) (l' c':Nat) (ms:List (Int×List Int)) (e:Int) (E'_2:Mem),Mem.le E' E'_2->Hyp (appendF a1 zs ds=(ms,e))->FL E'_2 b' l' c' ms->Mem.le E' E'_2/\Sx.Alike (AlikeT.n al2 AlikeT.l) (bif e !=(10:Int) then Mem.le E E'_2/\K (SV.tup [L b' l' c',I e]) E'_2 else (∃ (tot_2:Nat),∃ (xs_2:List (List Int)),∃ (js_2:List Value),some (⟨26,Row.vals (vR xs++js),tot,true⟩:Box)=some (⟨26,Row.vals (vR xs_2++js_2),tot_2,true⟩:Box)/\W5 xs_2/\List.length xs_2=m/\m<=1000/\∀ (k kcap ktot:Nat),List.length (List.filter (fun (x:List Int)=> !isN a6 a7 x) xs_2)=k->k<=kcap->kcap*(5:Nat)<=ktot->∀ (base:Option Addr) (E':Mem),Mem.le E'_2 E'->WinE E' base (vR (List.filter (fun (x:List Int)=> !isN a6 a7 x) xs_2))->∃ (xs:List (List Int)),SL (RK IntKind.i64 (5:Nat)) E' (Option.map (fun (x:Addr)=>Addr.add x (0:Nat)) base) k kcap xs/\k<=(20:Nat)/\(∀ (x:List Int),List.Mem x xs->∀ (m:Int),List.Mem m x->okN m)/\okN cnt/\∀ (b':Option Addr) (l' c':Nat) (ds:List (List Int)) (E'_3:Mem),Mem.le E' E'_3->Hyp (ds=keepF (xs,cnt))->BL E'_3 b' l' c' ds->∃ (zs:List Int),∃ (keep:List (List Int)),Bs E'_3 b2 l3 c4 zs/\BL E'_3 b' l' c' keep/\(∀ (d:List Int),List.Mem d keep->List.length d<=(60000:Nat))/\l'<=(1000:Nat)/\∀ (b':Option Addr) (l' c':Nat) (ms:List (Int×List Int)) (e:Int) (E':Mem),Mem.le E'_3 E'->Hyp (compactF a1 zs keep=(ms,e))->FL E' b' l' c' ms->Mem.le E'_3 E'/\Sx.Alike al2 (Mem.le E E'/\K (SV.tup [L b' l' c',I e]) E'))/\∃ (tot_2:Nat),∃ (xs_2:List (List Int)),∃ (js_2:List Value),some (⟨26,Row.vals (vR xs++js),tot,true⟩:Box)=some (⟨26,Row.vals (vR xs_2++js_2),tot_2,true⟩:Box)/\W5 xs_2/\List.length xs_2=m/\m<=1000/\∀ (k kcap ktot:Nat),List.length (List.filter (fun (x:List Int)=> !isN a6 a7 x) xs_2)=k->k<=kcap->kcap*(5:Nat)<=ktot->Sx.Alike al2 (∀ (base:Option Addr) (E':Mem),Mem.le E'_2 E'->WinE E' base (vR (List.filter (fun (x:List Int)=> !isN a6 a7 x) xs_2))->∃ (xs:List (List Int)),SL (RK IntKind.i64 (5:Nat)) E' (Option.map (fun (x:Addr)=>Addr.add x (0:Nat)) base) k kcap xs/\k<=(20:Nat)/\(∀ (x:List Int),List.Mem x xs->∀ (m:Int),List.Mem m x->okN m)/\okN cnt/\∀ (b':Option Addr) (l' c':Nat) (ds:List (List Int)) (E'_3:Mem),Mem.le E' E'_3->Hyp (ds=keepF (xs,cnt))->BL E'_3 b' l' c' ds->∃ (zs:List Int),∃ (keep:List (List Int)),Bs E'_3 b2 l3 c4 zs/\BL E'_3 b' l' c' keep/\(∀ (d:List Int),List.Mem d keep->List.length d<=(60000:Nat))/\l'<=(1000:Nat)/\∀ (b':Option Addr) (l' c':Nat) (ms:List (Int×List Int)) (e:Int) (E':Mem),Mem.le E'_3 E'->Hyp (compactF a1 zs keep=(ms,e))->FL E' b' l' c' ms->Mem.le E'_3 E'/\Sx.Alike al2 (Mem.le E E'/\K (SV.tup [L b' l' c',I e]) E')))))
 have nil:∀ (e:Int) (E':Mem),Mem.le E E'->giveF a5 a1 zs a6 a7=([],e)->K (.tup [L none 0 0,I e]) E':=fun e E' k q=>h none 0 0 [] e E' k q (FL.nil E')
 refine ⟨zs,h0,fun e E1 k1 q1 q2=>⟨k1,condC (fun _=>⟨k1,nil e E1 k1 ?_⟩) (fun v=>?_)⟩,fun xs cnt m cap tot js E1 k1 q1 hx hc1 hc2 hj=>?_⟩
 ·unfold giveF
  rw [show heldF a5 a1 zs=(([],0),e) from q1];exact if_pos q2
 ·have q2:e≠0:=q2
  exact absurd (by simpa using v) q2
 have q1:heldF a5 a1 zs=((xs,cnt),0):=q1
 have I':=held_inv q1
 have w5:W5 xs:=I'.w5
 have le:xs.length<=16:=I'.le
 refine ⟨k1,tot,xs,js,rfl,w5,hx,by omega,condC (fun g=>⟨k1,nil 4 E1 k1 ?_⟩) (fun g=>?_)⟩
 ·unfold giveF
  rw [q1]
  have g:xs.any (isN a6 a7)=false:=by simpa using g
  rw [if_neg (by simp)]
  exact if_pos (Int.not_le.1 fun w=>by rw [idx_any.1 w] at g;cases g)
 have g:xs.any (isN a6 a7)=true:=by simpa using g
 have on:=any_okN I' g
 have okx:=inv_ok I'
 have f5:W5 (xs.filter fun x=> !isN a6 a7 x):=fun x hx=>w5 x ((List.mem_filter.1 hx).1)
 have fl:=List.length_filter_le (fun x=> !isN a6 a7 x) xs
 have kb:=keep_bd (st:=(xs.filter (fun x=> !isN a6 a7 x),cnt)) f5
 refine alike fun base E2 k2 w=>⟨[2,a6,a7],SL.win (RK_ok .i64 (by decide)) w (rs:=([2,a6,a7].map fun z=>[z]).map fun x=>x.map (Value.int .i64)) rfl (SLr_RK (fun x hx=>by obtain ⟨z,_,rfl⟩:=List.mem_map.1 hx;rfl)) rfl (Nat.le_refl _),by decide,on,fun b' l' c' ys E3 k3 z1 z2=>⟨zs,ys,h0.mono (mt_ k1 (mt_ k2 k3)),z2,?_,fun b3 l3' c3' ms e E4 k4 z3 z4=>⟨k4,alike ?_⟩⟩⟩
 ·have:=z2.2.1
  have rl:=recB_len [2,a6,a7]
  rw [show ys=recB [2,a6,a7] from z1] at this
  simp at rl;omega
 have z3:appendF a1 zs ys=(ms,e):=z3
 rw [show ys=recB [2,a6,a7] from z1] at z3
 have tr:=give_ref q1 g z3
 have k4':Mem.le E E4:=mt_ k1 (mt_ k2 (mt_ k3 k4))
 refine condC (fun ge=>⟨k4',h b3 l3' c3' ms e E4 k4' (by show giveF _ _ _ _ _=_;rw [tr,if_neg (by simpa using ge)]) z4⟩) (fun ge=>?_)
 have ge:e=10:=by simpa using ge
 rw [if_pos ge] at tr
 repeat' refine And.intro ?_ ?_
 all_goals
  refine ⟨tot,xs,js,rfl,w5,hx,by omega,fun k kcap ktot y1 y2 y3=>?_⟩
  first
   | refine fun base E5 k5 w5'=>⟨xs.filter (fun x=> !isN a6 a7 x),vR_win f5 y1 y2 w5',by omega,fun x hx=>okx x ((List.mem_filter.1 hx).1),cnt_okN I',fun b' l' c' ds E6 k6 q3 q4=>⟨zs,ds,h0.mono (mt_ k4' (mt_ k5 k6)),q4,?_,?_,fun b3 l3' c3' ms e E7 k7 q5 q6=>⟨k7,alike ⟨mt_ k4' (mt_ k5 (mt_ k6 k7)),h b3 l3' c3' ms e E7 (mt_ k4' (mt_ k5 (mt_ k6 k7))) (by show giveF _ _ _ _ _=_;rw [tr,← show ds=keepF (xs.filter (fun x=> !isN a6 a7 x),cnt) from q3];exact q5) q6⟩⟩⟩⟩
   | refine alike fun base E5 k5 w5'=>⟨xs.filter (fun x=> !isN a6 a7 x),vR_win f5 y1 y2 w5',by omega,fun x hx=>okx x ((List.mem_filter.1 hx).1),cnt_okN I',fun b' l' c' ds E6 k6 q3 q4=>⟨zs,ds,h0.mono (mt_ k4' (mt_ k5 k6)),q4,?_,?_,fun b3 l3' c3' ms e E7 k7 q5 q6=>⟨k7,alike ⟨mt_ k4' (mt_ k5 (mt_ k6 k7)),h b3 l3' c3' ms e E7 (mt_ k4' (mt_ k5 (mt_ k6 k7))) (by show giveF _ _ _ _ _=_;rw [tr,← show ds=keepF (xs.filter (fun x=> !isN a6 a7 x),cnt) from q3];exact q5) q6⟩⟩⟩⟩
  ·rw [show ds=keepF (xs.filter (fun x=> !isN a6 a7 x),cnt) from q3];exact kb.1
  ·have:=q4.len
   have k2':=kb.2
   rw [← show ds=keepF (xs.filter (fun x=> !isN a6 a7 x),cnt) from q3] at k2'
   simp only [] at k2';omega
end Go.Proofs.YtdaakdbkmjgloaaGreat.CustodyOwn
