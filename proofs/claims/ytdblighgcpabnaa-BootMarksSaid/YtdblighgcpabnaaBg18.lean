/- What functions of the program compute; plain lemmas on it. Conditions: none. -/
import Derived.Test.YtdblighgcpabnaaBg15
namespace Go.Proofs.Ytdblighgcpabnaa.BootOwn
open Go Go.Sx
set_option maxRecDepth 100000
set_option maxHeartbeats 4000000
set_option linter.unusedVariables false
set_option linter.unusedSimpArgs false
variable {E:Mem} {K:SV->Mem->Prop}
noncomputable def tabP7:FuncId->List SV->Mem->(SV->Mem->Prop)->Prop:=fun f args E K=>match f with
 | 15=>d1 args fun x0=>dC x0 fun l1=>d2 l1 fun x0_0 x0_1=>dI x0_0 fun a1=>dS x0_1 fun b2 l3 c4=>∃ (zs:List Int),Bs E b2 l3 c4 zs/\(∀ (v:Int) (d:List Int) (e:Int) (b':Option Addr) (l' c':Nat) (E':Mem),Mem.le E E'->Hyp (selectF a1 zs=((v,d),e))->Bs E' b' l' c' d->K (.tup [I v,L b' l' c',I e]) E')
 | 36=>d1 args fun x0=>dC x0 fun l1=>d2 l1 fun x0_0 x0_1=>dS x0_0 fun b1 l2 c3=>dS x0_1 fun b4 l5 c6=>∃ (xs:List Int) (ys:List Int),Bs E b1 l2 c3 xs/\l2=4224/\Bs E b4 l5 c6 ys/\l5=4224/\(((∀ E':Mem,Mem.le E E'->Hyp (hidS xs ys= -1)->K (I (-1)) E')/\(∀ E':Mem,Mem.le E E'->Hyp (hidS xs ys=0)->K (I 0) E')/\(∀ E':Mem,Mem.le E E'->Hyp (hidS xs ys=1)->K (I 1) E')))
 | 37=>d1 args fun x0=>dS x0 fun b1 l2 c3=>∃ (zs:List Int),Bs E b1 l2 c3 zs/\l2=4224/\(∀ (v:Int) (d:List Int) (b':Option Addr) (l' c':Nat) (E':Mem),Mem.le E E'->Hyp (hidP zs=(v,d))->Bs E' b' l' c' d->K (.tup [I v,L b' l' c']) E')
 | _=>False
theorem tabP7_ok:TabOK Try.prog tabP7:=by
 intro f args E K h
 unfold tabP7 at h
 split at h
 ·replace h:=d1_elim h
  obtain ⟨x0,rfl,h⟩:=h
  replace h:=dC_elim h
  obtain ⟨l1,hl1,h⟩:=h
  replace h:=d2_elim h
  obtain ⟨x0_0,x0_1,rfl,h⟩:=h
  replace h:=dI_elim h
  obtain ⟨a1,rfl,h⟩:=h
  replace h:=dS_elim h
  obtain ⟨b2,l3,c4,rfl,h⟩:=h
  obtain ⟨zs,g0,h⟩:=h
  exact TabSem.congr (valL_cons (asCells_val hl1) rfl) (esm okP4 Try.func15 rfl (q15 g0 h))
 ·replace h:=d1_elim h
  obtain ⟨x0,rfl,h⟩:=h
  replace h:=dC_elim h
  obtain ⟨l1,hl1,h⟩:=h
  replace h:=d2_elim h
  obtain ⟨x0_0,x0_1,rfl,h⟩:=h
  replace h:=dS_elim h
  obtain ⟨b1,l2,c3,rfl,h⟩:=h
  replace h:=dS_elim h
  obtain ⟨b4,l5,c6,rfl,h⟩:=h
  obtain ⟨xs,ys,g0,g1,g2,g3,h⟩:=h
  exact TabSem.congr (valL_cons (asCells_val hl1) rfl) (esm okP3 Try.func36 rfl (q36 g0 g1 g2 g3 h))
 ·replace h:=d1_elim h
  obtain ⟨x0,rfl,h⟩:=h
  replace h:=dS_elim h
  obtain ⟨b1,l2,c3,rfl,h⟩:=h
  obtain ⟨zs,g0,g1,h⟩:=h
  exact TabSem.congr (valL_cons rfl rfl) (esm okP1 Try.func37 rfl (q37 g0 g1 h))
 ·exact h.elim
noncomputable def P7:Cx:={ P:=Try.prog,inl:=fun f=>List.contains [29,35] f,tab:=tabP7,isB:=fun f=>f==42,tabB:=tab42,opt:={ unroll:=0,carry:=[],cuts:=[13] },muts:=mutsD }
theorem okP7:CxOK P7:=CxOK.four tabP7_ok (by kernel_rfl) (okInl (by kernel_rfl)) tab42_ok
theorem c17_0 {s v:Int} {b b0 b1 pb:Option Addr} {l c pl pc:Nat} {z p:List Int} {E1:Mem} (H:HI E1 s v b b0 b1 pb l c pl pc z p) (hE:Mem.le E E1) (h:∀ (fb:Option Addr) (n cap:Nat) (E':Mem),Mem.le E1 E'->FL E' fb n cap (instL 128 z 0 v p)->K (.tup [L fb n cap,I 0]) E'):
  Ct P7 8 Try.f17 [1,1,1,1,1,1,1,1] 0 (pubK E K) ⟨[none,none,none,oc 0 0,oc 1 0,oc 2 0,none,none,none,none,none,oc 3 0,none,none,none,none,none,oc 4 0,oc 5 0]++List.replicate 47 none,[⟨24,.lst [I s,L b l c],2,true⟩,⟨3,.lst [I v],1,true⟩,⟨22,.lst [L pb pl pc],1,true⟩,⟨56,.lst [L b0 4224 4224,L b1 4224 4224],2,true⟩,⟨3,.lst [I 0],1,true⟩,⟨3,.lst [I 0],1,true⟩],E1⟩:=by
 refine Ct_intro okP7 ?_
 refine sm_ (?_:42=42/\∃ (s_1:Int),∃ (v_1:Int),∃ (b_1:Option Addr),∃ (b0_1:Option Addr),∃ (b1_1:Option Addr),∃ (pb_1:Option Addr),∃ (l_1:Nat),∃ (c_1:Nat),∃ (pl_1:Nat),∃ (pc_1:Nat),∃ (z:List Int),∃ (p:List Int),[SV.agg [I s,L b l c],SV.clo 43 [] [SV.loc 3 0,SV.loc 4 0,SV.loc 5 0,SV.loc 2 0,SV.loc 1 0]]=[SV.agg [I s_1,L b_1 l_1 c_1],SV.clo 43 [] [SV.loc 3 0,SV.loc 4 0,SV.loc 5 0,SV.loc 2 0,SV.loc 1 0]]/\(([(⟨24,Row.lst [I s,L b l c],2,true⟩:Box),⟨3,Row.lst [I v],1,true⟩,⟨22,Row.lst [L pb pl pc],1,true⟩,⟨56,Row.lst [L b0 4224 4224,L b1 4224 4224],2,true⟩,⟨3,Row.lst [I (0:Int)],1,true⟩,⟨3,Row.lst [I (0:Int)],1,true⟩]=[(⟨24,Row.lst [I s_1,L b_1 l_1 c_1],2,true⟩:Box),⟨3,Row.lst [I v_1],1,true⟩,⟨22,Row.lst [L pb_1 pl_1 pc_1],1,true⟩,⟨56,Row.lst [L b0_1 4224 4224,L b1_1 4224 4224],2,true⟩,⟨3,Row.lst [I (0:Int)],1,true⟩,⟨3,Row.lst [I (0:Int)],1,true⟩]/\HI E1 s_1 v_1 b_1 b0_1 b1_1 pb_1 l_1 c_1 pl_1 pc_1 z p/\∀ (fb:Option Addr) (n cap:Nat) (E':Mem),Mem.le E1 E'->FL E' fb n cap (instL (128:Int) z 0 v_1 p)->Mem.le E E'/\K (SV.tup [L fb n cap,I (0:Int)]) E')\/[(⟨24,Row.lst [I s,L b l c],2,true⟩:Box),⟨3,Row.lst [I v],1,true⟩,⟨22,Row.lst [L pb pl pc],1,true⟩,⟨56,Row.lst [L b0 4224 4224,L b1 4224 4224],2,true⟩,⟨3,Row.lst [I (0:Int)],1,true⟩,⟨3,Row.lst [I (0:Int)],1,true⟩]=[(⟨24,Row.lst [I s_1,L b_1 l_1 c_1],2,true⟩:Box),⟨3,Row.lst [I v_1],1,true⟩,⟨22,Row.lst [L pb_1 pl_1 pc_1],1,true⟩,⟨56,Row.lst [L b0_1 4224 4224,L b1_1 4224 4224],2,true⟩,⟨3,Row.lst [I (1:Int)],1,true⟩,⟨3,Row.lst [I (4224:Int)],1,true⟩]/\HI E1 s_1 v_1 b_1 b0_1 b1_1 pb_1 l_1 c_1 pl_1 pc_1 z p/\∀ (fb:Option Addr) (n cap:Nat) (E':Mem),Mem.le E1 E'->FL E' fb n cap (instL (128:Int) z 1 v_1 p)->Mem.le E E'/\K (SV.tup [L fb n cap,I (0:Int)]) E'))
 refine ⟨rfl,s,v,b,b0,b1,pb,l,c,pl,pc,z,p,rfl,.inl ⟨rfl,H,fun fb n cap E' k F=>⟨mt_ hE k,h fb n cap E' k F⟩⟩⟩
theorem c17_1 {s v:Int} {b b0 b1 pb:Option Addr} {l c pl pc:Nat} {z p:List Int} {E1:Mem} (H:HI E1 s v b b0 b1 pb l c pl pc z p) (hE:Mem.le E E1) (h:∀ (fb:Option Addr) (n cap:Nat) (E':Mem),Mem.le E1 E'->FL E' fb n cap (instL 128 z 1 v p)->K (.tup [L fb n cap,I 0]) E'):
  Ct P7 8 Try.f17 [1,1,1,1,1,1,1,1] 0 (pubK E K) ⟨[none,none,none,oc 0 0,oc 1 0,oc 2 0,none,none,none,none,none,oc 3 0,none,none,none,none,none,oc 4 0,oc 5 0]++List.replicate 47 none,[⟨24,.lst [I s,L b l c],2,true⟩,⟨3,.lst [I v],1,true⟩,⟨22,.lst [L pb pl pc],1,true⟩,⟨56,.lst [L b0 4224 4224,L b1 4224 4224],2,true⟩,⟨3,.lst [I 1],1,true⟩,⟨3,.lst [I 4224],1,true⟩],E1⟩:=by
 refine Ct_intro okP7 ?_
 refine sm_ (?_:42=42/\∃ (s_1:Int),∃ (v_1:Int),∃ (b_1:Option Addr),∃ (b0_1:Option Addr),∃ (b1_1:Option Addr),∃ (pb_1:Option Addr),∃ (l_1:Nat),∃ (c_1:Nat),∃ (pl_1:Nat),∃ (pc_1:Nat),∃ (z:List Int),∃ (p:List Int),[SV.agg [I s,L b l c],SV.clo 43 [] [SV.loc 3 0,SV.loc 4 0,SV.loc 5 0,SV.loc 2 0,SV.loc 1 0]]=[SV.agg [I s_1,L b_1 l_1 c_1],SV.clo 43 [] [SV.loc 3 0,SV.loc 4 0,SV.loc 5 0,SV.loc 2 0,SV.loc 1 0]]/\(([(⟨24,Row.lst [I s,L b l c],2,true⟩:Box),⟨3,Row.lst [I v],1,true⟩,⟨22,Row.lst [L pb pl pc],1,true⟩,⟨56,Row.lst [L b0 4224 4224,L b1 4224 4224],2,true⟩,⟨3,Row.lst [I (1:Int)],1,true⟩,⟨3,Row.lst [I (4224:Int)],1,true⟩]=[(⟨24,Row.lst [I s_1,L b_1 l_1 c_1],2,true⟩:Box),⟨3,Row.lst [I v_1],1,true⟩,⟨22,Row.lst [L pb_1 pl_1 pc_1],1,true⟩,⟨56,Row.lst [L b0_1 4224 4224,L b1_1 4224 4224],2,true⟩,⟨3,Row.lst [I (0:Int)],1,true⟩,⟨3,Row.lst [I (0:Int)],1,true⟩]/\HI E1 s_1 v_1 b_1 b0_1 b1_1 pb_1 l_1 c_1 pl_1 pc_1 z p/\∀ (fb:Option Addr) (n cap:Nat) (E':Mem),Mem.le E1 E'->FL E' fb n cap (instL (128:Int) z 0 v_1 p)->Mem.le E E'/\K (SV.tup [L fb n cap,I (0:Int)]) E')\/[(⟨24,Row.lst [I s,L b l c],2,true⟩:Box),⟨3,Row.lst [I v],1,true⟩,⟨22,Row.lst [L pb pl pc],1,true⟩,⟨56,Row.lst [L b0 4224 4224,L b1 4224 4224],2,true⟩,⟨3,Row.lst [I (1:Int)],1,true⟩,⟨3,Row.lst [I (4224:Int)],1,true⟩]=[(⟨24,Row.lst [I s_1,L b_1 l_1 c_1],2,true⟩:Box),⟨3,Row.lst [I v_1],1,true⟩,⟨22,Row.lst [L pb_1 pl_1 pc_1],1,true⟩,⟨56,Row.lst [L b0_1 4224 4224,L b1_1 4224 4224],2,true⟩,⟨3,Row.lst [I (1:Int)],1,true⟩,⟨3,Row.lst [I (4224:Int)],1,true⟩]/\HI E1 s_1 v_1 b_1 b0_1 b1_1 pb_1 l_1 c_1 pl_1 pc_1 z p/\∀ (fb:Option Addr) (n cap:Nat) (E':Mem),Mem.le E1 E'->FL E' fb n cap (instL (128:Int) z 1 v_1 p)->Mem.le E E'/\K (SV.tup [L fb n cap,I (0:Int)]) E'))
 refine ⟨rfl,s,v,b,b0,b1,pb,l,c,pl,pc,z,p,rfl,.inr ⟨rfl,H,fun fb n cap E' k F=>⟨mt_ hE k,h fb n cap E' k F⟩⟩⟩
theorem q17 {a1:Int} {b2:Option Addr} {l3:Nat} {c4:Nat} {a5:Int} {b6:Option Addr} {l7:Nat} {c8:Nat} {zs:List Int} {p:List Int} (h0:Bs E b2 l3 c4 zs) (h1:Bs E b6 l7 c8 p) (h:∀ (b':Option Addr) (l' c':Nat) (ms:List (Int×List Int)) (e:Int) (E':Mem),Mem.le E E'->Hyp (installF a1 zs a5 p=(ms,e))->FL E' b' l' c' ms->K (.tup [L b' l' c',I e]) E'):
  Ent P7 8 Try.f17 [.agg [I a1,L b2 l3 c4],I a5,L b6 l7 c8] E K:=by
 refine sm_ (?_:∃ (zs:List Int),Bs E b2 l3 c4 zs/\∀ (v:Int) (d:List Int) (e:Int) (b':Option Addr) (l' c':Nat) (E':Mem),Mem.le E E'->Hyp (selectF a1 zs=((v,d),e))->Bs E' b' l' c' d->Mem.le E E'/\bif e !=(0:Int) then Mem.le E E'/\K (SV.tup [L none 0 0,I e]) E' else bif a1 !=(128:Int) then Mem.le E' E'/\∃ (zs:List Int),Bs E' none 0 0 zs/\0=4224/\∀ (v_1:Int) (d:List Int) (b'_1:Option Addr) (l'_1 c'_1:Nat) (E'_1:Mem),Mem.le E' E'_1->Hyp (hidP zs=(v_1,d))->Bs E'_1 b'_1 l'_1 c'_1 d->Mem.le E' E'_1/\∃ (zs:List Int),Bs E'_1 none 0 0 zs/\0=4224/\∀ (v_2:Int) (d:List Int) (b'_2:Option Addr) (l'_2 c'_2:Nat) (E':Mem),Mem.le E'_1 E'->Hyp (hidP zs=(v_2,d))->Bs E' b'_2 l'_2 c'_2 d->Mem.le E'_1 E'/\bif decide (a5>=(1:Int)) then bif bif true then decide (a5<=(1000000000:Int)) else false then Mem.le E' E'/\bif !bif true then decide ((NI l7)<=4096) else false then Mem.le E E'/\K (SV.tup [L none 0 0,I 1]) E' else bif decide (a5<=if v_2>v_1 then v_2 else v_1) then Mem.le E E'/\K (SV.tup [L none 0 0,I 14]) E' else ∃ (xs:List Int),∃ (ys:List Int),Bs E' none 0 0 xs/\0=4224/\Bs E' none 0 0 ys/\0=4224/\(∀ (E'_2:Mem),Mem.le E' E'_2->Hyp (hidS xs ys=(-1:Int))->Mem.le E' E'_2/\Ct P7 8 Try.f17 [1,1,1,1,1,1,1,1] 0 (pubK E K) { fr:=[some (SV.agg [I a1,L b2 l3 c4]),oI a5,oL b6 l7 c8,oc 0 0,oc 1 0,oc 2 0,oL none 0 0,oI 0,oI v,oL b' l' c',oI e,oc 5 0,oB false,oI v_1,oL b'_1 l'_1 c'_1,oI v_2,oL b'_2 l'_2 c'_2,oc 6 0,oc 7 0,some (SV.tup [I v,L b' l' c',I e]),some (SV.agg [I a1,L b2 l3 c4]),some (SV.tup [I v,L b' l' c',I e]),oI v,oL b' l' c',oI e,oI e,oB (e !=(0:Int)),none,some (SV.tup [SV.agg [L none 0 0,L none 0 0],B false]),some (SV.agg [I a1,L b2 l3 c4]),some (SV.tup [SV.agg [L none 0 0,L none 0 0],B false]),some (SV.agg [L none 0 0,L none 0 0]),oB false,some (SV.tup [I v_1,L b'_1 l'_1 c'_1]),oc 5 0,oL none 0 0,some (SV.tup [I v_1,L b'_1 l'_1 c'_1]),oI v_1,oL b'_1 l'_1 c'_1,some (SV.tup [I v_2,L b'_2 l'_2 c'_2]),oc 5 1,oL none 0 0,some (SV.tup [I v_2,L b'_2 l'_2 c'_2]),oI v_2,oL b'_2 l'_2 c'_2,oB (!bif true then decide ((NI l7)<=4096) else false),oI a5,oL b6 l7 c8,oB (bif true then decide ((NI l7)<=4096) else false),oB (!bif true then decide ((NI l7)<=4096) else false),oB (decide (a5<=if v_2>v_1 then v_2 else v_1)),oI a5,oI v_1,oI v_2,oI (if v_2>v_1 then v_2 else v_1),oB (decide (a5<=if v_2>v_1 then v_2 else v_1)),some (SV.agg [L none 0 0,L none 0 0]),oI (-1),oI 2,oI 2,oI 8448,none,none,none,none,none],bx:=[(⟨24,.lst [I a1,L b2 l3 c4],2,true⟩:Box),⟨3,.lst [I a5],1,true⟩,⟨22,.lst [L b6 l7 c8],1,true⟩,⟨24,.lst [I a1,L b2 l3 c4],2,true⟩,⟨56,.lst [L none 0 0,L none 0 0],2,true⟩,⟨56,.lst [L none 0 0,L none 0 0],2,true⟩,⟨3,.lst [I 2],1,true⟩,⟨3,.lst [I 8448],1,true⟩],E:=E'_2:St })/\(∀ (E'_2:Mem),Mem.le E' E'_2->Hyp (hidS xs ys=(0:Int))->Mem.le E' E'_2/\Ct P7 8 Try.f17 [1,1,1,1,1,1,1,1] 0 (pubK E K) { fr:=[some (SV.agg [I a1,L b2 l3 c4]),oI a5,oL b6 l7 c8,oc 0 0,oc 1 0,oc 2 0,oL none 0 0,oI 0,oI v,oL b' l' c',oI e,oc 5 0,oB false,oI v_1,oL b'_1 l'_1 c'_1,oI v_2,oL b'_2 l'_2 c'_2,oc 6 0,oc 7 0,some (SV.tup [I v,L b' l' c',I e]),some (SV.agg [I a1,L b2 l3 c4]),some (SV.tup [I v,L b' l' c',I e]),oI v,oL b' l' c',oI e,oI e,oB (e !=(0:Int)),none,some (SV.tup [SV.agg [L none 0 0,L none 0 0],B false]),some (SV.agg [I a1,L b2 l3 c4]),some (SV.tup [SV.agg [L none 0 0,L none 0 0],B false]),some (SV.agg [L none 0 0,L none 0 0]),oB false,some (SV.tup [I v_1,L b'_1 l'_1 c'_1]),oc 5 0,oL none 0 0,some (SV.tup [I v_1,L b'_1 l'_1 c'_1]),oI v_1,oL b'_1 l'_1 c'_1,some (SV.tup [I v_2,L b'_2 l'_2 c'_2]),oc 5 1,oL none 0 0,some (SV.tup [I v_2,L b'_2 l'_2 c'_2]),oI v_2,oL b'_2 l'_2 c'_2,oB (!bif true then decide ((NI l7)<=4096) else false),oI a5,oL b6 l7 c8,oB (bif true then decide ((NI l7)<=4096) else false),oB (!bif true then decide ((NI l7)<=4096) else false),oB (decide (a5<=if v_2>v_1 then v_2 else v_1)),oI a5,oI v_1,oI v_2,oI (if v_2>v_1 then v_2 else v_1),oB (decide (a5<=if v_2>v_1 then v_2 else v_1)),some (SV.agg [L none 0 0,L none 0 0]),oI 0,oI 1,oI 1,oI 4224,none,none,none,none,none],bx:=[(⟨24,.lst [I a1,L b2 l3 c4],2,true⟩:Box),⟨3,.lst [I a5],1,true⟩,⟨22,.lst [L b6 l7 c8],1,true⟩,⟨24,.lst [I a1,L b2 l3 c4],2,true⟩,⟨56,.lst [L none 0 0,L none 0 0],2,true⟩,⟨56,.lst [L none 0 0,L none 0 0],2,true⟩,⟨3,.lst [I 1],1,true⟩,⟨3,.lst [I 4224],1,true⟩],E:=E'_2:St })/\∀ (E'_2:Mem),Mem.le E' E'_2->Hyp (hidS xs ys=(1:Int))->Mem.le E' E'_2/\Ct P7 8 Try.f17 [1,1,1,1,1,1,1,1] 0 (pubK E K) { fr:=[some (SV.agg [I a1,L b2 l3 c4]),oI a5,oL b6 l7 c8,oc 0 0,oc 1 0,oc 2 0,oL none 0 0,oI 0,oI v,oL b' l' c',oI e,oc 5 0,oB false,oI v_1,oL b'_1 l'_1 c'_1,oI v_2,oL b'_2 l'_2 c'_2,oc 6 0,oc 7 0,some (SV.tup [I v,L b' l' c',I e]),some (SV.agg [I a1,L b2 l3 c4]),some (SV.tup [I v,L b' l' c',I e]),oI v,oL b' l' c',oI e,oI e,oB (e !=(0:Int)),none,some (SV.tup [SV.agg [L none 0 0,L none 0 0],B false]),some (SV.agg [I a1,L b2 l3 c4]),some (SV.tup [SV.agg [L none 0 0,L none 0 0],B false]),some (SV.agg [L none 0 0,L none 0 0]),oB false,some (SV.tup [I v_1,L b'_1 l'_1 c'_1]),oc 5 0,oL none 0 0,some (SV.tup [I v_1,L b'_1 l'_1 c'_1]),oI v_1,oL b'_1 l'_1 c'_1,some (SV.tup [I v_2,L b'_2 l'_2 c'_2]),oc 5 1,oL none 0 0,some (SV.tup [I v_2,L b'_2 l'_2 c'_2]),oI v_2,oL b'_2 l'_2 c'_2,oB (!bif true then decide ((NI l7)<=4096) else false),oI a5,oL b6 l7 c8,oB (bif true then decide ((NI l7)<=4096) else false),oB (!bif true then decide ((NI l7)<=4096) else false),oB (decide (a5<=if v_2>v_1 then v_2 else v_1)),oI a5,oI v_1,oI v_2,oI (if v_2>v_1 then v_2 else v_1),oB (decide (a5<=if v_2>v_1 then v_2 else v_1)),some (SV.agg [L none 0 0,L none 0 0]),oI 1,oI 0,oI 0,oI 0,none,none,none,none,none],bx:=[(⟨24,.lst [I a1,L b2 l3 c4],2,true⟩:Box),⟨3,.lst [I a5],1,true⟩,⟨22,.lst [L b6 l7 c8],1,true⟩,⟨24,.lst [I a1,L b2 l3 c4],2,true⟩,⟨56,.lst [L none 0 0,L none 0 0],2,true⟩,⟨56,.lst [L none 0 0,L none 0 0],2,true⟩,⟨3,.lst [I 0],1,true⟩,⟨3,.lst [I 0],1,true⟩],E:=E'_2:St } else Mem.le E' E'/\Mem.le E E'/\K (SV.tup [L none 0 0,I 1]) E' else Mem.le E' E'/\Mem.le E E'/\K (SV.tup [L none 0 0,I 1]) E' else bif bif false then true else (NI l3) !=8448 then Mem.le E' E'/\∃ (zs:List Int),Bs E' none 0 0 zs/\0=4224/\∀ (v_1:Int) (d:List Int) (b'_1:Option Addr) (l'_1 c'_1:Nat) (E'_1:Mem),Mem.le E' E'_1->Hyp (hidP zs=(v_1,d))->Bs E'_1 b'_1 l'_1 c'_1 d->Mem.le E' E'_1/\∃ (zs:List Int),Bs E'_1 none 0 0 zs/\0=4224/\∀ (v_2:Int) (d:List Int) (b'_2:Option Addr) (l'_2 c'_2:Nat) (E':Mem),Mem.le E'_1 E'->Hyp (hidP zs=(v_2,d))->Bs E' b'_2 l'_2 c'_2 d->Mem.le E'_1 E'/\bif decide (a5>=(1:Int)) then bif bif true then decide (a5<=(1000000000:Int)) else false then Mem.le E' E'/\bif !bif true then decide ((NI l7)<=4096) else false then Mem.le E E'/\K (SV.tup [L none 0 0,I 1]) E' else bif decide (a5<=if v_2>v_1 then v_2 else v_1) then Mem.le E E'/\K (SV.tup [L none 0 0,I 14]) E' else ∃ (xs:List Int),∃ (ys:List Int),Bs E' none 0 0 xs/\0=4224/\Bs E' none 0 0 ys/\0=4224/\(∀ (E'_2:Mem),Mem.le E' E'_2->Hyp (hidS xs ys=(-1:Int))->Mem.le E' E'_2/\Ct P7 8 Try.f17 [1,1,1,1,1,1,1,1] 0 (pubK E K) { fr:=[some (SV.agg [I a1,L b2 l3 c4]),oI a5,oL b6 l7 c8,oc 0 0,oc 1 0,oc 2 0,oL none 0 0,oI 0,oI v,oL b' l' c',oI e,oc 5 0,oB false,oI v_1,oL b'_1 l'_1 c'_1,oI v_2,oL b'_2 l'_2 c'_2,oc 6 0,oc 7 0,some (SV.tup [I v,L b' l' c',I e]),some (SV.agg [I a1,L b2 l3 c4]),some (SV.tup [I v,L b' l' c',I e]),oI v,oL b' l' c',oI e,oI e,oB (e !=(0:Int)),none,some (SV.tup [SV.agg [L none 0 0,L none 0 0],B false]),some (SV.agg [I a1,L b2 l3 c4]),some (SV.tup [SV.agg [L none 0 0,L none 0 0],B false]),some (SV.agg [L none 0 0,L none 0 0]),oB false,some (SV.tup [I v_1,L b'_1 l'_1 c'_1]),oc 5 0,oL none 0 0,some (SV.tup [I v_1,L b'_1 l'_1 c'_1]),oI v_1,oL b'_1 l'_1 c'_1,some (SV.tup [I v_2,L b'_2 l'_2 c'_2]),oc 5 1,oL none 0 0,some (SV.tup [I v_2,L b'_2 l'_2 c'_2]),oI v_2,oL b'_2 l'_2 c'_2,oB (!bif true then decide ((NI l7)<=4096) else false),oI a5,oL b6 l7 c8,oB (bif true then decide ((NI l7)<=4096) else false),oB (!bif true then decide ((NI l7)<=4096) else false),oB (decide (a5<=if v_2>v_1 then v_2 else v_1)),oI a5,oI v_1,oI v_2,oI (if v_2>v_1 then v_2 else v_1),oB (decide (a5<=if v_2>v_1 then v_2 else v_1)),some (SV.agg [L none 0 0,L none 0 0]),oI (-1),oI 2,oI 2,oI 8448,none,none,none,none,none],bx:=[(⟨24,.lst [I a1,L b2 l3 c4],2,true⟩:Box),⟨3,.lst [I a5],1,true⟩,⟨22,.lst [L b6 l7 c8],1,true⟩,⟨24,.lst [I a1,L b2 l3 c4],2,true⟩,⟨56,.lst [L none 0 0,L none 0 0],2,true⟩,⟨56,.lst [L none 0 0,L none 0 0],2,true⟩,⟨3,.lst [I 2],1,true⟩,⟨3,.lst [I 8448],1,true⟩],E:=E'_2:St })/\(∀ (E'_2:Mem),Mem.le E' E'_2->Hyp (hidS xs ys=(0:Int))->Mem.le E' E'_2/\Ct P7 8 Try.f17 [1,1,1,1,1,1,1,1] 0 (pubK E K) { fr:=[some (SV.agg [I a1,L b2 l3 c4]),oI a5,oL b6 l7 c8,oc 0 0,oc 1 0,oc 2 0,oL none 0 0,oI 0,oI v,oL b' l' c',oI e,oc 5 0,oB false,oI v_1,oL b'_1 l'_1 c'_1,oI v_2,oL b'_2 l'_2 c'_2,oc 6 0,oc 7 0,some (SV.tup [I v,L b' l' c',I e]),some (SV.agg [I a1,L b2 l3 c4]),some (SV.tup [I v,L b' l' c',I e]),oI v,oL b' l' c',oI e,oI e,oB (e !=(0:Int)),none,some (SV.tup [SV.agg [L none 0 0,L none 0 0],B false]),some (SV.agg [I a1,L b2 l3 c4]),some (SV.tup [SV.agg [L none 0 0,L none 0 0],B false]),some (SV.agg [L none 0 0,L none 0 0]),oB false,some (SV.tup [I v_1,L b'_1 l'_1 c'_1]),oc 5 0,oL none 0 0,some (SV.tup [I v_1,L b'_1 l'_1 c'_1]),oI v_1,oL b'_1 l'_1 c'_1,some (SV.tup [I v_2,L b'_2 l'_2 c'_2]),oc 5 1,oL none 0 0,some (SV.tup [I v_2,L b'_2 l'_2 c'_2]),oI v_2,oL b'_2 l'_2 c'_2,oB (!bif true then decide ((NI l7)<=4096) else false),oI a5,oL b6 l7 c8,oB (bif true then decide ((NI l7)<=4096) else false),oB (!bif true then decide ((NI l7)<=4096) else false),oB (decide (a5<=if v_2>v_1 then v_2 else v_1)),oI a5,oI v_1,oI v_2,oI (if v_2>v_1 then v_2 else v_1),oB (decide (a5<=if v_2>v_1 then v_2 else v_1)),some (SV.agg [L none 0 0,L none 0 0]),oI 0,oI 1,oI 1,oI 4224,none,none,none,none,none],bx:=[(⟨24,.lst [I a1,L b2 l3 c4],2,true⟩:Box),⟨3,.lst [I a5],1,true⟩,⟨22,.lst [L b6 l7 c8],1,true⟩,⟨24,.lst [I a1,L b2 l3 c4],2,true⟩,⟨56,.lst [L none 0 0,L none 0 0],2,true⟩,⟨56,.lst [L none 0 0,L none 0 0],2,true⟩,⟨3,.lst [I 1],1,true⟩,⟨3,.lst [I 4224],1,true⟩],E:=E'_2:St })/\∀ (E'_2:Mem),Mem.le E' E'_2->Hyp (hidS xs ys=(1:Int))->Mem.le E' E'_2/\Ct P7 8 Try.f17 [1,1,1,1,1,1,1,1] 0 (pubK E K) { fr:=[some (SV.agg [I a1,L b2 l3 c4]),oI a5,oL b6 l7 c8,oc 0 0,oc 1 0,oc 2 0,oL none 0 0,oI 0,oI v,oL b' l' c',oI e,oc 5 0,oB false,oI v_1,oL b'_1 l'_1 c'_1,oI v_2,oL b'_2 l'_2 c'_2,oc 6 0,oc 7 0,some (SV.tup [I v,L b' l' c',I e]),some (SV.agg [I a1,L b2 l3 c4]),some (SV.tup [I v,L b' l' c',I e]),oI v,oL b' l' c',oI e,oI e,oB (e !=(0:Int)),none,some (SV.tup [SV.agg [L none 0 0,L none 0 0],B false]),some (SV.agg [I a1,L b2 l3 c4]),some (SV.tup [SV.agg [L none 0 0,L none 0 0],B false]),some (SV.agg [L none 0 0,L none 0 0]),oB false,some (SV.tup [I v_1,L b'_1 l'_1 c'_1]),oc 5 0,oL none 0 0,some (SV.tup [I v_1,L b'_1 l'_1 c'_1]),oI v_1,oL b'_1 l'_1 c'_1,some (SV.tup [I v_2,L b'_2 l'_2 c'_2]),oc 5 1,oL none 0 0,some (SV.tup [I v_2,L b'_2 l'_2 c'_2]),oI v_2,oL b'_2 l'_2 c'_2,oB (!bif true then decide ((NI l7)<=4096) else false),oI a5,oL b6 l7 c8,oB (bif true then decide ((NI l7)<=4096) else false),oB (!bif true then decide ((NI l7)<=4096) else false),oB (decide (a5<=if v_2>v_1 then v_2 else v_1)),oI a5,oI v_1,oI v_2,oI (if v_2>v_1 then v_2 else v_1),oB (decide (a5<=if v_2>v_1 then v_2 else v_1)),some (SV.agg [L none 0 0,L none 0 0]),oI 1,oI 0,oI 0,oI 0,none,none,none,none,none],bx:=[(⟨24,.lst [I a1,L b2 l3 c4],2,true⟩:Box),⟨3,.lst [I a5],1,true⟩,⟨22,.lst [L b6 l7 c8],1,true⟩,⟨24,.lst [I a1,L b2 l3 c4],2,true⟩,⟨56,.lst [L none 0 0,L none 0 0],2,true⟩,⟨56,.lst [L none 0 0,L none 0 0],2,true⟩,⟨3,.lst [I 0],1,true⟩,⟨3,.lst [I 0],1,true⟩],E:=E'_2:St } else Mem.le E' E'/\Mem.le E E'/\K (SV.tup [L none 0 0,I 1]) E' else Mem.le E' E'/\Mem.le E E'/\K (SV.tup [L none 0 0,I 1]) E' else req (l3<=c4) (req ((0:Int)<=(4224:Int)/\4224<=(NI c4)) (∀ (base':Option Addr) (E'_1:Mem),Mem.le E' E'_1->(∀ (cs:List Value),E' (VS b2 l3 c4) cs->E'_1 (VS base' 4224 4224) (List.take 4224 (List.drop 0 cs)))->Option.isNone base'=Option.isNone b2->req (l3<=c4) (req ((0:Int)<=(8448:Int)/\8448<=(NI c4)) (∀ (base'_1:Option Addr) (E'_2:Mem),Mem.le E'_1 E'_2->(∀ (cs:List Value),E'_1 (VS b2 l3 c4) cs->E'_2 (VS base'_1 4224 4224) (List.take 4224 (List.drop 4224 cs)))->Option.isNone base'_1=Option.isNone b2->Mem.le E' E'_2/\∃ (zs:List Int),Bs E'_2 base' 4224 4224 zs/\4224=4224/\∀ (v_1:Int) (d:List Int) (b'_1:Option Addr) (l'_1 c'_1:Nat) (E':Mem),Mem.le E'_2 E'->Hyp (hidP zs=(v_1,d))->Bs E' b'_1 l'_1 c'_1 d->Mem.le E'_2 E'/\∃ (zs:List Int),Bs E' base'_1 4224 4224 zs/\4224=4224/\∀ (v_2:Int) (d:List Int) (b'_2:Option Addr) (l'_2 c'_2:Nat) (E'_3:Mem),Mem.le E' E'_3->Hyp (hidP zs=(v_2,d))->Bs E'_3 b'_2 l'_2 c'_2 d->Mem.le E' E'_3/\bif decide (a5>=(1:Int)) then bif bif true then decide (a5<=(1000000000:Int)) else false then Mem.le E'_3 E'_3/\bif !bif true then decide ((NI l7)<=4096) else false then Mem.le E E'_3/\K (SV.tup [L none 0 0,I 1]) E'_3 else bif decide (a5<=if v_2>v_1 then v_2 else v_1) then Mem.le E E'_3/\K (SV.tup [L none 0 0,I 14]) E'_3 else ∃ (xs:List Int),∃ (ys:List Int),Bs E'_3 base' 4224 4224 xs/\4224=4224/\Bs E'_3 base'_1 4224 4224 ys/\4224=4224/\(∀ (E':Mem),Mem.le E'_3 E'->Hyp (hidS xs ys=(-1:Int))->Mem.le E'_3 E'/\Ct P7 8 Try.f17 [(1:Nat),(1:Nat),(1:Nat),(1:Nat),(1:Nat),(1:Nat),(1:Nat),(1:Nat)] (0:Nat) (pubK E K) { fr:=[some (SV.agg [I a1,L b2 l3 c4]),oI a5,oL b6 l7 c8,oc 0 0,oc 1 0,oc 2 0,oL none 0 0,oI 0,oI v,oL b' l' c',oI e,oc 5 0,oB true,oI v_1,oL b'_1 l'_1 c'_1,oI v_2,oL b'_2 l'_2 c'_2,oc 6 0,oc 7 0,some (SV.tup [I v,L b' l' c',I e]),some (SV.agg [I a1,L b2 l3 c4]),some (SV.tup [I v,L b' l' c',I e]),oI v,oL b' l' c',oI e,oI e,oB (e !=(0:Int)),none,some (SV.tup [SV.agg [L base' 4224 4224,L base'_1 4224 4224],B true]),some (SV.agg [I a1,L b2 l3 c4]),some (SV.tup [SV.agg [L base' 4224 4224,L base'_1 4224 4224],B true]),some (SV.agg [L base' 4224 4224,L base'_1 4224 4224]),oB true,some (SV.tup [I v_1,L b'_1 l'_1 c'_1]),oc 5 0,oL base' 4224 4224,some (SV.tup [I v_1,L b'_1 l'_1 c'_1]),oI v_1,oL b'_1 l'_1 c'_1,some (SV.tup [I v_2,L b'_2 l'_2 c'_2]),oc 5 1,oL base'_1 4224 4224,some (SV.tup [I v_2,L b'_2 l'_2 c'_2]),oI v_2,oL b'_2 l'_2 c'_2,oB (!bif true then decide ((NI l7)<=4096) else false),oI a5,oL b6 l7 c8,oB (bif true then decide ((NI l7)<=4096) else false),oB (!bif true then decide ((NI l7)<=4096) else false),oB (decide (a5<=if v_2>v_1 then v_2 else v_1)),oI a5,oI v_1,oI v_2,oI (if v_2>v_1 then v_2 else v_1),oB (decide (a5<=if v_2>v_1 then v_2 else v_1)),some (SV.agg [L base' 4224 4224,L base'_1 4224 4224]),oI (-1),oI 2,oI 2,oI 8448,none,none,none,none,none],bx:=[(⟨(24:Nat),Row.lst [I a1,L b2 l3 c4],(2:Nat),true⟩:Box),⟨(3:Nat),Row.lst [I a5],(1:Nat),true⟩,⟨(22:Nat),Row.lst [L b6 l7 c8],(1:Nat),true⟩,⟨(24:Nat),Row.lst [I a1,L b2 l3 c4],(2:Nat),true⟩,⟨(56:Nat),Row.lst [L base' 4224 4224,L base'_1 4224 4224],(2:Nat),true⟩,⟨(56:Nat),Row.lst [L base' 4224 4224,L base'_1 4224 4224],(2:Nat),true⟩,⟨(3:Nat),Row.lst [I 2],(1:Nat),true⟩,⟨(3:Nat),Row.lst [I 8448],(1:Nat),true⟩],E:=E':St })/\(∀ (E':Mem),Mem.le E'_3 E'->Hyp (hidS xs ys=(0:Int))->Mem.le E'_3 E'/\Ct P7 8 Try.f17 [(1:Nat),(1:Nat),(1:Nat),(1:Nat),(1:Nat),(1:Nat),(1:Nat),(1:Nat)] (0:Nat) (pubK E K) { fr:=[some (SV.agg [I a1,L b2 l3 c4]),oI a5,oL b6 l7 c8,oc 0 0,oc 1 0,oc 2 0,oL none 0 0,oI 0,oI v,oL b' l' c',oI e,oc 5 0,oB true,oI v_1,oL b'_1 l'_1 c'_1,oI v_2,oL b'_2 l'_2 c'_2,oc 6 0,oc 7 0,some (SV.tup [I v,L b' l' c',I e]),some (SV.agg [I a1,L b2 l3 c4]),some (SV.tup [I v,L b' l' c',I e]),oI v,oL b' l' c',oI e,oI e,oB (e !=(0:Int)),none,some (SV.tup [SV.agg [L base' 4224 4224,L base'_1 4224 4224],B true]),some (SV.agg [I a1,L b2 l3 c4]),some (SV.tup [SV.agg [L base' 4224 4224,L base'_1 4224 4224],B true]),some (SV.agg [L base' 4224 4224,L base'_1 4224 4224]),oB true,some (SV.tup [I v_1,L b'_1 l'_1 c'_1]),oc 5 0,oL base' 4224 4224,some (SV.tup [I v_1,L b'_1 l'_1 c'_1]),oI v_1,oL b'_1 l'_1 c'_1,some (SV.tup [I v_2,L b'_2 l'_2 c'_2]),oc 5 1,oL base'_1 4224 4224,some (SV.tup [I v_2,L b'_2 l'_2 c'_2]),oI v_2,oL b'_2 l'_2 c'_2,oB (!bif true then decide ((NI l7)<=4096) else false),oI a5,oL b6 l7 c8,oB (bif true then decide ((NI l7)<=4096) else false),oB (!bif true then decide ((NI l7)<=4096) else false),oB (decide (a5<=if v_2>v_1 then v_2 else v_1)),oI a5,oI v_1,oI v_2,oI (if v_2>v_1 then v_2 else v_1),oB (decide (a5<=if v_2>v_1 then v_2 else v_1)),some (SV.agg [L base' 4224 4224,L base'_1 4224 4224]),oI 0,oI 1,oI 1,oI 4224,none,none,none,none,none],bx:=[(⟨(24:Nat),Row.lst [I a1,L b2 l3 c4],(2:Nat),true⟩:Box),⟨(3:Nat),Row.lst [I a5],(1:Nat),true⟩,⟨(22:Nat),Row.lst [L b6 l7 c8],(1:Nat),true⟩,⟨(24:Nat),Row.lst [I a1,L b2 l3 c4],(2:Nat),true⟩,⟨(56:Nat),Row.lst [L base' 4224 4224,L base'_1 4224 4224],(2:Nat),true⟩,⟨(56:Nat),Row.lst [L base' 4224 4224,L base'_1 4224 4224],(2:Nat),true⟩,⟨(3:Nat),Row.lst [I 1],(1:Nat),true⟩,⟨(3:Nat),Row.lst [I 4224],(1:Nat),true⟩],E:=E':St })/\∀ (E':Mem),Mem.le E'_3 E'->Hyp (hidS xs ys=(1:Int))->Mem.le E'_3 E'/\Ct P7 8 Try.f17 [(1:Nat),(1:Nat),(1:Nat),(1:Nat),(1:Nat),(1:Nat),(1:Nat),(1:Nat)] (0:Nat) (pubK E K) { fr:=[some (SV.agg [I a1,L b2 l3 c4]),oI a5,oL b6 l7 c8,oc 0 0,oc 1 0,oc 2 0,oL none 0 0,oI 0,oI v,oL b' l' c',oI e,oc 5 0,oB true,oI v_1,oL b'_1 l'_1 c'_1,oI v_2,oL b'_2 l'_2 c'_2,oc 6 0,oc 7 0,some (SV.tup [I v,L b' l' c',I e]),some (SV.agg [I a1,L b2 l3 c4]),some (SV.tup [I v,L b' l' c',I e]),oI v,oL b' l' c',oI e,oI e,oB (e !=(0:Int)),none,some (SV.tup [SV.agg [L base' 4224 4224,L base'_1 4224 4224],B true]),some (SV.agg [I a1,L b2 l3 c4]),some (SV.tup [SV.agg [L base' 4224 4224,L base'_1 4224 4224],B true]),some (SV.agg [L base' 4224 4224,L base'_1 4224 4224]),oB true,some (SV.tup [I v_1,L b'_1 l'_1 c'_1]),oc 5 0,oL base' 4224 4224,some (SV.tup [I v_1,L b'_1 l'_1 c'_1]),oI v_1,oL b'_1 l'_1 c'_1,some (SV.tup [I v_2,L b'_2 l'_2 c'_2]),oc 5 1,oL base'_1 4224 4224,some (SV.tup [I v_2,L b'_2 l'_2 c'_2]),oI v_2,oL b'_2 l'_2 c'_2,oB (!bif true then decide ((NI l7)<=4096) else false),oI a5,oL b6 l7 c8,oB (bif true then decide ((NI l7)<=4096) else false),oB (!bif true then decide ((NI l7)<=4096) else false),oB (decide (a5<=if v_2>v_1 then v_2 else v_1)),oI a5,oI v_1,oI v_2,oI (if v_2>v_1 then v_2 else v_1),oB (decide (a5<=if v_2>v_1 then v_2 else v_1)),some (SV.agg [L base' 4224 4224,L base'_1 4224 4224]),oI 1,oI 0,oI 0,oI 0,none,none,none,none,none],bx:=[(⟨(24:Nat),Row.lst [I a1,L b2 l3 c4],(2:Nat),true⟩:Box),⟨(3:Nat),Row.lst [I a5],(1:Nat),true⟩,⟨(22:Nat),Row.lst [L b6 l7 c8],(1:Nat),true⟩,⟨(24:Nat),Row.lst [I a1,L b2 l3 c4],(2:Nat),true⟩,⟨(56:Nat),Row.lst [L base' 4224 4224,L base'_1 4224 4224],(2:Nat),true⟩,⟨(56:Nat),Row.lst [L base' 4224 4224,L base'_1 4224 4224],(2:Nat),true⟩,⟨(3:Nat),Row.lst [I 0],(1:Nat),true⟩,⟨(3:Nat),Row.lst [I 0],(1:Nat),true⟩],E:=E':St } else Mem.le E'_3 E'_3/\Mem.le E E'_3/\K (SV.tup [L none 0 0,I 1]) E'_3 else Mem.le E'_3 E'_3/\Mem.le E E'_3/\K (SV.tup [L none 0 0,I 1]) E'_3)))))
 delta NI VS
 have hl:=h0.2.1
 have hc:=h0.2.2.1
 have hp:=h1.2.1
 have ex:∀ {ms:List (Int×List Int)} {e:Int},installF a1 zs a5 p=(ms,e)->(∀ (b':Option Addr) (l' c':Nat) (E':Mem),Mem.le E E'->FL E' b' l' c' ms->K (.tup [L b' l' c',I e]) E'):=fun he b' l' c' E' hE hF=>h b' l' c' _ _ E' hE he hF
 refine ⟨zs,h0,fun v d e b' l' c' E1 k1 r1 B1=>⟨k1,condC (fun q=>⟨k1,?_⟩) (fun q=>?_)⟩⟩
 ·have r1:selectF a1 zs=((v,d),e):=r1
  have q:e≠0:=by simpa using q
  refine ex (ms:=[]) (e:=e) ?_ none 0 0 E1 k1 (FL.nil _)
  unfold installF
  rw [if_pos (by rw [r1];exact q),r1]
 have r1:selectF a1 zs=((v,d),e):=r1
 have q:e=0:=by simpa using q
 subst q
 have hm:memB a1 zs.length:=Decidable.byContradiction fun z=>by
  unfold selectF at r1
  rw [if_pos z] at r1
  have:=(Prod.mk.inj r1).2
  exact absurd this (by decide)
 have hs0:¬ selF zs<0:=fun z=>by
  unfold selectF at r1
  rw [if_neg (fun w=>w hm),if_pos z] at r1
  have:=(Prod.mk.inj r1).2
  exact absurd this (by decide)
 have ea:a1=128:=hm.1
 have el:l3=8448:=by rw [← hl];exact hm.2
 have un:installF a1 zs a5 p=if ¬ fitsF a5 p then ([],1) else if a5<=max (progB (bankF zs 0)).1 (progB (bankF zs 1)).1 then ([],14) else (instL a1 zs (1-selF zs).toNat a5 p,0):=by
  unfold installF
  rw [if_neg (fun z=>z (by rw [r1]))]
 refine condC (fun g=>absurd ea (by simpa using g)) (fun _=>condC (fun g=>?_) (fun _=>?_))
 ·exact absurd g (by simp [el])
 refine req_intro hc (req_intro (by omega) (fun bA EA kA fA nA=>req_intro hc (req_intro (by omega) (fun bB EB kB fB nB=>⟨mt_ kA kB,?_⟩))))
 have HA:Bs EB bA 4224 4224 (bankF zs 0):=(Bs.cut3 (lo:=0) (hi:=4224) (h0.mono k1) fA nA (by decide) (by omega)).mono kB
 have HB:Bs EB bB 4224 4224 (bankF zs 1):=Bs.cut3 (lo:=4224) (hi:=8448) ((h0.mono k1).mono kA) fB nB (by decide) (by omega)
 have kb:Mem.le E EB:=mt_ k1 (mt_ kA kB)
 refine ⟨bankF zs 0,HA,rfl,fun v1 d1 b1' l1' c1' E2 k2 r2 _=>⟨k2,bankF zs 1,HB.mono k2,rfl,fun v2 d2 b2' l2' c2' E3 k3 r3 _=>⟨k3,?_⟩⟩⟩
 have r2:hidP (bankF zs 0)=(v1,d1):=r2
 have r3:hidP (bankF zs 1)=(v2,d2):=r3
 rw [hidP_eq] at r2 r3
 rw [r2,r3] at un
 have k03:Mem.le E E3:=mt_ kb (mt_ k2 k3)
 have bad:¬ fitsF a5 p->K (.tup [L none 0 0,I 1]) E3:=fun nf=>ex (by rw [un,if_pos nf]) none 0 0 E3 k03 (FL.nil _)
 refine condC (fun g1=>condC (fun g2=>⟨mr_,condC (fun g3=>⟨k03,bad fun f=>?_⟩) (fun g3=>condC (fun g4=>⟨k03,?_⟩) (fun g4=>?_))⟩) (fun g2=>⟨mr_,k03,bad fun f=>?_⟩)) (fun g1=>⟨mr_,k03,bad fun f=>?_⟩)
 ·obtain ⟨f1,f2,f3⟩:=f
  simp at g3;omega
 ·have fit:fitsF a5 p:=⟨by simpa using g1,by simpa using g2,by simp at g3;omega⟩
  refine ex (ms:=[]) (e:=14) ?_ none 0 0 E3 k03 (FL.nil _)
  rw [un,if_neg (fun z=>z fit),if_pos (by simp at g4;rw [Int.max_def];split at g4<;>split<;>omega)]
 ·have fit:fitsF a5 p:=⟨by simpa using g1,by simpa using g2,by simp at g3;omega⟩
  have g5:¬ a5<=max v1 v2:=by simp at g4;rw [Int.max_def];split at g4<;>split<;>omega
  rw [if_neg (fun z=>z fit),if_neg g5] at un
  have k23:=mt_ k2 k3
  have HH:∀ E4,Mem.le E3 E4->HI E4 a1 a5 b2 bA bB b6 l3 c4 l7 c8 zs p:=fun E4 k4=>
   have kk:=mt_ k03 k4
   ⟨ea,el,h0.mono kk,HA.mono (mt_ k23 k4),HB.mono (mt_ k23 k4),h1.mono kk,⟨by have:=fit.1;omega,fit.2.1⟩,by have:=fit.2.2;omega⟩
  refine ⟨bankF zs 0,bankF zs 1,HA.mono k23,rfl,HB.mono k23,rfl,fun E4 k4 r4=>⟨k4,?_⟩,fun E4 k4 r4=>⟨k4,?_⟩,fun E4 k4 r4=>⟨k4,?_⟩⟩
  ·have r4:hidS (bankF zs 0) (bankF zs 1)= -1:=r4
   rw [hidS_eq,← selF_2] at r4
   exact absurd (show selF zs<0 by rw [r4];decide) hs0
  ·have r4:hidS (bankF zs 0) (bankF zs 1)=0:=r4
   rw [hidS_eq,← selF_2] at r4
   rw [r4,ea] at un
   exact Ct_re [some 0,some 1,some 2,some 5,some 6,some 7] (c17_1 (HH E4 k4) (mt_ k03 k4) fun fb n cap E' kE F=>ex (by rw [ea,un];rfl) fb n cap E' (mt_ k03 (mt_ k4 kE)) F) (wkG mr_)
  ·have r4:hidS (bankF zs 0) (bankF zs 1)=1:=r4
   rw [hidS_eq,← selF_2] at r4
   rw [r4,ea] at un
   exact Ct_re [some 0,some 1,some 2,some 5,some 6,some 7] (c17_0 (HH E4 k4) (mt_ k03 k4) fun fb n cap E' kE F=>ex (by rw [ea,un];rfl) fb n cap E' (mt_ k03 (mt_ k4 kE)) F) (wkG mr_)
 ·obtain ⟨f1,f2,f3⟩:=f
  simp at g2;omega
 ·obtain ⟨f1,f2,f3⟩:=f
  simp at g1;omega
noncomputable def Q1:Cx:={ P:=Try.prog,inl:=fun f=>List.contains [] f,tab:=fun _ _ _ _=>False,isB:=fun _=>false,tabB:=fun _ _ _ _ _=>False,opt:={ unroll:=0,carry:=[5] },muts:=mutsD }
theorem okQ1:CxOK Q1:=CxOK.four (fun _ _ _ _ h=>h.elim) (by kernel_rfl) (okInl (by kernel_rfl)) (fun _ _ _ _ _ h=>h.elim)
def sh21 (b2 b6:Option Addr) (l3 c4 l7 c8 i:Nat) (E:Mem):St:=⟨[oL b2 l3 c4,oL b6 l7 c8,none,none,none,oI (i:Nat)]++List.replicate 20 none,[],E⟩
theorem rnd21 {b2 b6:Option Addr} {l3 c4 l7 c8 i:Nat} {zs ys:List Int} {E0:Mem} {K:SV->Mem->Prop} (h0:Bs E b2 l3 c4 zs) (h1:Bs E b6 l7 c8 ys) (h2:l3<=100000) (hl:l3=l7) (hi:i<=l3) (hp:zs.take i=ys.take i)
  (hE:Mem.le E0 E) (h:K (B (decide (zs=ys))) E) (ih:i<l3->zs.take (i+1)=ys.take (i+1)->Lp Q1 8 Try.f21 [1,1,0,1,0] 0 (pubK E0 K) (sh21 b2 b6 l3 c4 l7 c8 (i+1) E)):
  Rnd Q1 8 Try.f21 [1,1,0,1,0] 0 (pubK E0 K) (sh21 b2 b6 l3 c4 l7 c8 i E):=by
 refine sm_ (?_:bif decide ((NI i)<(NI l3)) then req (0<=(NI i)/\(NI i)<(NI l3)) ((∃ (cs:List Value),E (VS b2 l3 c4) cs/\(cs=[]->False))/\∃ (n:Int),LoadE Q1.P E 5 (VS b2 l3 c4) (Int.toNat (NI i)*1) (SV.raw (U8 n))/\req (0<=(NI i)/\(NI i)<(NI l7)) ((∃ (cs:List Value),E (VS b6 l7 c8) cs/\(cs=[]->False))/\∃ (n_1:Int),LoadE Q1.P E 5 (VS b6 l7 c8) (Int.toNat (NI i)*1) (SV.raw (U8 n_1))/\bif n !=n_1 then Mem.le E0 E/\K (B false) E else Lp Q1 8 Try.f21 [1,1,0,1,0] 0 (pubK E0 K) { fr:=some (L b2 l3 c4)::oL b6 l7 c8::none::none::none::oI (WI ((NI i)+1))::no16 (no4 []),bx:=[],E:=E:St })) else Mem.le E0 E/\K (B true) E)
 delta WI NI U8 VS no4 no16
 have z0:=h0.2.1
 have z1:=h1.2.1
 refine condC (fun g=>?_) (fun g=>?_)
 ·have g:i<l3:=by simpa using g
  refine req_intro (by omega) ⟨h0.ne g,zs.getD i 0,h0.load rfl g,req_intro (by omega) ⟨h1.ne (i:=i) (by omega),ys.getD i 0,h1.load (i:=i) rfl (by omega),condC (fun q=>?_) (fun q=>?_)⟩⟩
  ·have q:¬ zs.getD i 0=ys.getD i 0:=by simpa using q
   rw [decide_eq_false (fun e=>q (by rw [e]))] at h
   exact ⟨hE,h⟩
  ·have q:zs.getD i 0=ys.getD i 0:=by simpa using q
   rw [wrap_i64 (by omega),show (i:Int)+1=((i+1:Nat):Int) by simp]
   exact Lp_re [] (ih g (by rw [take_getD (by omega),take_getD (by omega),hp,q])) (wkG mr_)
 ·have g:i=l3:=by simp at g;omega
  subst g
  rw [decide_eq_true (by rw [← List.take_of_length_le (l:=zs) (i:=i) (by omega),hp,List.take_of_length_le (by omega)])] at h
  exact ⟨hE,h⟩
theorem lp21 {b2 b6:Option Addr} {l3 c4 l7 c8 i:Nat} {zs ys:List Int} {E0:Mem} {K:SV->Mem->Prop} (h0:Bs E b2 l3 c4 zs) (h1:Bs E b6 l7 c8 ys) (h2:l3<=100000) (hl:l3=l7) (hi:i<=l3) (hp:zs.take i=ys.take i)
  (hE:Mem.le E0 E) (h:K (B (decide (zs=ys))) E):Lp Q1 8 Try.f21 [1,1,0,1,0] 0 (pubK E0 K) (sh21 b2 b6 l3 c4 l7 c8 i E):=
 Lp_ind okQ1 (fun x:{i:Nat//i<=l3/\zs.take i=ys.take i}=>sh21 b2 b6 l3 c4 l7 c8 x.1 E) (fun x=>l3-x.1) (fun x ih=>rnd21 h0 h1 h2 hl x.2.1 x.2.2 hE h fun g e=>ih ⟨x.1+1,by omega,e⟩ (by show l3-(_+1)<l3-_;omega)) ⟨i,hi,hp⟩
theorem q21 {b1:Option Addr} {l2:Nat} {c3:Nat} {b4:Option Addr} {l5:Nat} {c6:Nat} {xs:List Int} {ys:List Int} (h0:Bs E b1 l2 c3 xs) (h1:Bs E b4 l5 c6 ys) (h2:l2<=100000) (h:K (B (decide (xs=ys))) E):
  Ent Q1 8 Try.f21 [L b1 l2 c3,L b4 l5 c6] E K:=by
 refine sm_ (?_:bif (NI l2) !=(NI l5) then Mem.le E E/\K (B false) E else Lp Q1 8 Try.f21 [1,1,0,1,0] 0 (pubK E K) { fr:=some (L b1 l2 c3)::oL b4 l5 c6::none::none::none::oI 0::oL b1 l2 c3::oI (NI l2)::oL b4 l5 c6::oI (NI l5)::oB ((NI l2) !=(NI l5))::no8 (no4 (no2 (none::[]))),bx:=[],E:=E:St })
 delta NI no2 no4 no8
 have z0:=h0.2.1
 have z1:=h1.2.1
 refine condC (fun g=>?_) (fun g=>?_)
 ·have g:¬ l2=l5:=by simp at g;omega
  rw [decide_eq_false (fun q=>g (by rw [← z0,← z1,q]))] at h
  exact ⟨mr_,h⟩
 have g:l2=l5:=by simp at g;omega
 exact Lp_re [] (lp21 (i:=0) h0 h1 h2 g (Nat.zero_le _) rfl mr_ h) (wkG mr_)
noncomputable def Q2:Cx:={ P:=Try.prog,inl:=fun f=>List.contains [] f,tab:=fun _ _ _ _=>False,isB:=fun _=>false,tabB:=fun _ _ _ _ _=>False,opt:={ unroll:=0,carry:=[] },muts:=mutsD }
theorem okQ2:CxOK Q2:=CxOK.four (fun _ _ _ _ h=>h.elim) (by kernel_rfl) (okInl (by kernel_rfl)) (fun _ _ _ _ _ h=>h.elim)
theorem q27H {b1:Option Addr} {l2:Nat} {c3:Nat} {a4:Int} {X:List (Int×List Int)} {w:List Int} (h0:FL E b1 l2 c3 (X++[(128,w)])) (h1:a4=0) (h2:l2<=100000) (h:∀ (b':Option Addr) (l' c':Nat) (E':Mem),Mem.le E E'->Bs E' b' l' c' w->K (.tup [.agg [I 128,L b' l' c'],B true]) E'):
  Ent Q2 8 Try.f27 [L b1 l2 c3,I a4] E K:=by
 refine sm_ (?_:bif a4 !=(0:Int) then Mem.le E E/\K (SV.tup [SV.agg [I 0,L none 0 0],B false]) E else bif bif false then true else (NI l2)==0 then Mem.le E E/\K (SV.tup [SV.agg [I 0,L none 0 0],B false]) E else req ((0:Int)<=WI ((NI l2)-1)/\WI ((NI l2)-1)<(NI l2)) ((∃ (cs:List Value),E (VS b1 l2 c3) cs/\(cs=[]->False))/\∃ (n:Int),∃ (base:Option Addr),∃ (len:Nat),∃ (cap:Nat),LoadE Q2.P E 24 (VS b1 l2 c3) (Int.toNat (WI ((NI l2)-1))*2) (SV.agg [I n,L base len cap])/\Mem.le E E/\K (SV.tup [SV.agg [I n,L base len cap],B true]) E))
 delta WI NI VS
 have hn:=h0.len
 simp only [List.length_append,List.length_cons,List.length_nil] at hn
 obtain ⟨q1,b',l',c',q2,q3⟩:=h0.load (i:=l2-1) (m:=(128,w)) (by rw [List.getElem?_append_right (by omega),show l2-1-X.length=0 by omega];rfl)
 refine condC (fun g=>absurd h1 (by simpa using g)) (fun _=>condC (fun g=>?_) (fun _=>?_))
 ·exact absurd g (by simp;omega)
 ·rw [wrap_i64 (by omega)]
  refine req_intro (by omega) ⟨q1,128,b',l',c',?_,mr_,h b' l' c' E mr_ q3⟩
  rw [show Int.toNat ((l2:Int)-1)*2=(l2-1)*2 by omega]
  exact q2
theorem q11E {a1:Int} {b2:Option Addr} {l3:Nat} {c4:Nat} {zs:List Int} {s':Int} {ys:List Int} {e:Int} (h0:Bs E b2 l3 c4 zs) (h1:formatB a1 zs=((s',ys),e)) (h:∀ (b':Option Addr) (l' c':Nat) (E':Mem),Mem.le E E'->Bs E' b' l' c' ys->K (.tup [.agg [I s',L b' l' c'],I e]) E'):
  Ent P6 8 Try.f11 [I a1,L b2 l3 c4] E K:=by
 exact q11 h0 fun s2 b' l' c' ys2 e2 E' k r B2=>by
  have r:formatB a1 zs=((s2,ys2),e2):=r
  rw [h1] at r
  cases r
  exact h b' l' c' E' k B2
theorem q17E {a1:Int} {b2:Option Addr} {l3:Nat} {c4:Nat} {a5:Int} {b6:Option Addr} {l7:Nat} {c8:Nat} {zs:List Int} {p:List Int} {ms:List (Int×List Int)} {e:Int} (h0:Bs E b2 l3 c4 zs) (h1:Bs E b6 l7 c8 p) (h2:installF a1 zs a5 p=(ms,e)) (h:∀ (b':Option Addr) (l' c':Nat) (E':Mem),Mem.le E E'->FL E' b' l' c' ms->K (.tup [L b' l' c',I e]) E'):
  Ent P7 8 Try.f17 [.agg [I a1,L b2 l3 c4],I a5,L b6 l7 c8] E K:=by
 exact q17 h0 h1 fun b' l' c' m2 e2 E' k r F2=>by
  have r:installF a1 zs a5 p=(m2,e2):=r
  rw [h2] at r
  cases r
  exact h b' l' c' E' k F2
theorem q19E {a1:Int} {b2:Option Addr} {l3:Nat} {c4:Nat} {a5:Int} {a6:Int} {zs:List Int} {ms:List (Int×List Int)} {e:Int} (h0:Bs E b2 l3 c4 zs) (h1:markF a1 zs a5 a6=(ms,e)) (h:∀ (b':Option Addr) (l' c':Nat) (E':Mem),Mem.le E E'->FL E' b' l' c' ms->K (.tup [L b' l' c',I e]) E'):
  Ent P5 8 Try.f19 [.agg [I a1,L b2 l3 c4],I a5,I a6] E K:=by
 exact q19 h0 fun b' l' c' m2 e2 E' k r F2=>by
  have r:markF a1 zs a5 a6=(m2,e2):=r
  rw [h1] at r
  cases r
  exact h b' l' c' E' k F2
theorem q23E {a1:Int} {b2:Option Addr} {l3:Nat} {c4:Nat} {a5:Int} {zs:List Int} {r:Int} (h0:Bs E b2 l3 c4 zs) (h1:marksF a1 zs a5=r) (h:∀ E':Mem,Mem.le E E'->K (I r) E'):
  Ent P5 8 Try.f23 [.agg [I a1,L b2 l3 c4],I a5] E K:=by
 exact q23 h0 fun E' k=>by
  rw [h1]
  exact h E' k
theorem q15E {a1:Int} {b2:Option Addr} {l3:Nat} {c4:Nat} {zs:List Int} {v:Int} {d:List Int} {e:Int} (h0:Bs E b2 l3 c4 zs) (h1:selectF a1 zs=((v,d),e)) (h:∀ (b':Option Addr) (l' c':Nat) (E':Mem),Mem.le E E'->Bs E' b' l' c' d->K (.tup [I v,L b' l' c',I e]) E'):
  Ent P4 8 Try.f15 [.agg [I a1,L b2 l3 c4]] E K:=by
 exact q15 h0 fun v2 d2 e2 b' l' c' E' k r B2=>by
  have r:selectF a1 zs=((v2,d2),e2):=r
  rw [h1] at r
  cases r
  exact h b' l' c' E' k B2
noncomputable def tabQ3:FuncId->List SV->Mem->(SV->Mem->Prop)->Prop:=fun f args E K=>match f with
 | 15=>d1 args fun x0=>dC x0 fun l1=>d2 l1 fun x0_0 x0_1=>dI x0_0 fun a1=>dS x0_1 fun b2 l3 c4=>∃ (zs:List Int) (v:Int) (d:List Int) (e:Int),Bs E b2 l3 c4 zs/\selectF a1 zs=((v,d),e)/\(∀ (b':Option Addr) (l' c':Nat) (E':Mem),Mem.le E E'->Bs E' b' l' c' d->K (.tup [I v,L b' l' c',I e]) E')
 | 21=>d2 args fun x0 x1=>dS x0 fun b1 l2 c3=>dS x1 fun b4 l5 c6=>∃ (xs:List Int) (ys:List Int),Bs E b1 l2 c3 xs/\Bs E b4 l5 c6 ys/\l2<=100000/\(K (B (decide (xs=ys))) E)
 | _=>False
theorem tabQ3_ok:TabOK Try.prog tabQ3:=by
 intro f args E K h
 unfold tabQ3 at h
 split at h
 ·replace h:=d1_elim h
  obtain ⟨x0,rfl,h⟩:=h
  replace h:=dC_elim h
  obtain ⟨l1,hl1,h⟩:=h
  replace h:=d2_elim h
  obtain ⟨x0_0,x0_1,rfl,h⟩:=h
  replace h:=dI_elim h
  obtain ⟨a1,rfl,h⟩:=h
  replace h:=dS_elim h
  obtain ⟨b2,l3,c4,rfl,h⟩:=h
  obtain ⟨zs,v,d,e,g0,g1,h⟩:=h
  exact TabSem.congr (valL_cons (asCells_val hl1) rfl) (esm okP4 Try.func15 rfl (q15E g0 g1 h))
 ·replace h:=d2_elim h
  obtain ⟨x0,x1,rfl,h⟩:=h
  replace h:=dS_elim h
  obtain ⟨b1,l2,c3,rfl,h⟩:=h
  replace h:=dS_elim h
  obtain ⟨b4,l5,c6,rfl,h⟩:=h
  obtain ⟨xs,ys,g0,g1,g2,h⟩:=h
  exact TabSem.congr (valL_cons rfl (valL_cons rfl rfl)) (esm okQ1 Try.func21 rfl (q21 g0 g1 g2 h))
 ·exact h.elim
noncomputable def Q3:Cx:={ P:=Try.prog,inl:=fun f=>List.contains [] f,tab:=tabQ3,isB:=fun _=>false,tabB:=fun _ _ _ _ _=>False,opt:={ unroll:=0,carry:=[] },muts:=mutsD }
theorem okQ3:CxOK Q3:=CxOK.four tabQ3_ok (by kernel_rfl) (okInl (by kernel_rfl)) (fun _ _ _ _ _ h=>h.elim)
theorem q26H {a1:Int} {b2:Option Addr} {l3:Nat} {c4:Nat} {a5:Int} {b6:Option Addr} {l7:Nat} {c8:Nat} {zs:List Int} {ds:List Int} (h0:Bs E b2 l3 c4 zs) (h1:Bs E b6 l7 c8 ds) (h2:selectF a1 zs=((a5,ds),0)) (h3:l7<=100000) (h:∀ E':Mem,Mem.le E E'->K (B true) E'):
  Ent Q3 8 Try.f26 [.agg [I a1,L b2 l3 c4],I a5,L b6 l7 c8] E K:=by
 refine sm_ (?_:∃ (zs:List Int),∃ (v:Int),∃ (d:List Int),∃ (e:Int),Bs E b2 l3 c4 zs/\selectF a1 zs=((v,d),e)/\∀ (b':Option Addr) (l' c':Nat) (E':Mem),Mem.le E E'->Bs E' b' l' c' d->Mem.le E E'/\bif e==(0:Int) then bif bif true then v==a5 else false then ∃ (xs:List Int),∃ (ys:List Int),Bs E' b' l' c' xs/\Bs E' b6 l7 c8 ys/\l'<=100000/\Mem.le E' E'/\Mem.le E E'/\K (B (bif true then decide (xs=ys) else false)) E' else Mem.le E E'/\K (B false) E' else Mem.le E E'/\K (B false) E')
 have hd:=h1.2.1
 refine ⟨zs,a5,ds,0,h0,h2,fun b' l' c' E1 k1 B1=>⟨k1,condC (fun _=>condC (fun _=>?_) (fun g=>absurd g (by simp))) (fun g=>absurd g (by decide))⟩⟩
 have hd2:=B1.2.1
 refine ⟨ds,ds,B1,h1.mono k1,by omega,mr_,k1,?_⟩
 have:=h E1 k1
 simpa using this
theorem progL_len {ms:List (Int×List Int)} {a:Nat} {ds:List Int} (l1:(lastM ms).1=128) (l2:(lastM ms).2.length=8448) (ha:a+ds.length<=8448):
  (progL ms a ds).length=ms.length+ds.length/\(lastM (progL ms a ds)).1=128/\(lastM (progL ms a ds)).2.length=8448:=by
 obtain ⟨p1,p2,p3,p4⟩:=prog_li (m2:=_) l1 l2 ha (progF_mk (by rw [l2];exact validB) (by omega) (by omega))
 exact ⟨by rw [← p2,chgF_len,p1];omega,p3,p4⟩
theorem used_no {z:List Int} {k i:Nat} (h:∀ j,4224*k+128*i<=j->j<4224*k+128*i+128->z.getD j 0=255):usedS z k i=false:=by
 unfold usedS
 rw [List.any_eq_false]
 intro x hx
 obtain ⟨j,hj,e⟩:=List.mem_iff_getElem.1 hx
 have hj2:j<128:=by rw [List.length_take] at hj;omega
 have hj3:4224*k+128*i+j<z.length:=by rw [List.length_take,List.length_drop] at hj;omega
 have:=h (4224*k+128*i+j) (by omega) (by omega)
 rw [List.getElem_take,List.getElem_drop] at e
 rw [List.getD_eq_getElem?_getD,List.getElem?_eq_getElem hj3] at this
 simp only [Option.getD_some] at this
 rw [← e,this];simp
theorem clean_id {z:List Int} {k:Nat} {l:List (Int×List Int)}:∀ n,(∀ i,i<n->usedS z k i=false)->cleanL z k l n=l
 | 0,_=>rfl
 | n+1,h=>by
  unfold cleanL
  rw [if_neg (by rw [h n (by omega)];decide)]
  exact clean_id n fun i hi=>h i (by omega)
theorem instL_len {z p:List Int} {k:Nat} {v:Int} (hz:z.length=8448) (hk:k<2) (hp:p.length<=4096) (er:Er z (4224*k) (4224*k+4224)):(instL 128 z k v p).length=16+p.length:=by
 have hh:=hdrF_len v p
 have e14:z.getD (4224*k+14) 0=255:=er _ (by omega) (by omega)
 unfold instL
 rw [if_neg (fun q=>q e14)]
 show (progL (progL (progL (cleanL z k [((128:Int),z)] 33) (4224*k+32) p) (4224*k) (hdrF v p)) (4224*k+14) [80]).length=_
 rw [clean_id 33 (fun i hi=>used_no fun j h1 h2=>er j (by omega) (by omega))]
 obtain ⟨a1,a2,a3⟩:=progL_len (ms:=[((128:Int),z)]) (a:=4224*k+32) (ds:=p) rfl hz (by omega)
 obtain ⟨b1,b2,b3⟩:=progL_len (a:=4224*k) (ds:=hdrF v p) a2 a3 (by omega)
 obtain ⟨c1,c2,c3⟩:=progL_len (a:=4224*k+14) (ds:=[80]) b2 b3 (by simp;omega)
 show (progL (progL (progL [((128:Int),z)] (4224*k+32) p) (4224*k) (hdrF v p)) (4224*k+14) [80]).length=_
 rw [c1,b1,a1,hh]
 simp only [List.length_cons,List.length_nil];omega
theorem clean_len {z:List Int} {k:Nat} {l:List (Int×List Int)} (l1:(lastM l).1=128) (l2:(lastM l).2.length=8448) (hk:k<2):∀ n,n<=33->(cleanL z k l n).length<=l.length+128*n/\(lastM (cleanL z k l n)).1=128/\(lastM (cleanL z k l n)).2.length=8448
 | 0,_=>⟨Nat.le_refl _,l1,l2⟩
 | n+1,h=>by
  obtain ⟨a1,a2,a3⟩:=clean_len (z:=z) (k:=k) l1 l2 hk n (by omega)
  unfold cleanL
  split
  ·obtain ⟨p1,p2,p3,p4⟩:=eras_li (m2:=_) (k:=33*k+n) a2 a3 (by omega) (erasF_mk (by rw [a3];exact validB) (by omega) (by rw [a3];omega))
   refine ⟨?_,p3,p4⟩
   rw [← p2,chgF_len,p1];omega
  ·exact ⟨by omega,a2,a3⟩
theorem instL_num {z p:List Int} {k:Nat} {v:Int} (hz:z.length=8448) (hk:k<2) (hp:p.length<=4096):(instL 128 z k v p).length<=9000:=by
 have hh:=hdrF_len v p
 have h0:∃ l0:List (Int×List Int),(if z.getD (4224*k+14) 0≠255 then progL [((128:Int),z)] (4224*k+14) [0] else [((128:Int),z)])=l0/\l0.length<=2/\(lastM l0).1=128/\(lastM l0).2.length=8448:=by
  split
  ·obtain ⟨a1,a2,a3⟩:=progL_len (ms:=[((128:Int),z)]) (a:=4224*k+14) (ds:=[0]) rfl hz (by simp;omega)
   exact ⟨_,rfl,by rw [a1];simp,a2,a3⟩
  ·exact ⟨_,rfl,by simp,rfl,hz⟩
 obtain ⟨l0,e0,n0,m1,m2⟩:=h0
 unfold instL
 rw [e0]
 obtain ⟨k1,k2,k3⟩:=clean_len (z:=z) (k:=k) m1 m2 hk 33 (Nat.le_refl _)
 obtain ⟨a1,a2,a3⟩:=progL_len (a:=4224*k+32) (ds:=p) k2 k3 (by omega)
 obtain ⟨b1,b2,b3⟩:=progL_len (a:=4224*k) (ds:=hdrF v p) a2 a3 (by omega)
 obtain ⟨c1,c2,c3⟩:=progL_len (a:=4224*k+14) (ds:=[80]) b2 b3 (by simp;omega)
 show (progL (progL (progL (cleanL z k l0 33) (4224*k+32) p) (4224*k) (hdrF v p)) (4224*k+14) [80]).length<=_
 rw [c1,b1,a1,hh]
 simp only [List.length_cons,List.length_nil];omega
theorem inst_num {s:Int} {z p:List Int} {v:Int}:(installF s z v p).1.length<=9000:=by
 unfold installF
 split
 ·simp
 ·rename_i hs
  split
  ·simp
  ·rename_i hf
   split
   ·simp
   ·have hm:memB s z.length:=Decidable.byContradiction fun q=>hs (by unfold selectF;rw [if_pos q];decide)
    have hf:=Decidable.not_not.1 hf
    obtain ⟨rfl,hz⟩:=hm
    have hn:¬ selF z<0:=fun q=>hs (by unfold selectF;rw [if_neg (fun w=>w ⟨rfl,hz⟩),if_pos q];decide)
    exact instL_num hz (by omega) hf.2.2
theorem marks_eq {z:List Int} {k:Nat} {v:Int} (hz:z.length=8448) (hf:findF z v=(k:Nat)):
  marksF 128 z v=if z.getD (4224*k+17) 0=0 then 3 else if z.getD (4224*k+16) 0=0 then 2 else if z.getD (4224*k+15) 0=0 then 1 else 0:=by
 unfold marksF
 rw [if_neg (fun q=>q ⟨rfl,hz⟩),hf,if_neg (by omega),Int.toNat_natCast]
 unfold markB
 rw [bank_get (by decide),bank_get (by decide),bank_get (by decide)]
theorem head_ok {p0 p1:List Int} (h0:p0.length<=60) (h1:p1.length=1) (b0:∀ x∈p0,0<=x/\x<=255) (b1:∀ x∈p1,0<=x/\x<=255):
  ∃ f x y zz X,formatB 3 p0=((128,f),0)/\f.length=8448/\selectF 128 f=((3,p0),0)/\marksF 128 f 3=2/\installF 128 f 5 p1=(X++[(128,x)],0)/\X.length=16/\markF 128 x 5 1=([(128,x),(128,y)],0)/\
   markF 128 y 5 3=([(128,y),(128,zz)],0)/\(∀ p2,p2.length<=60->installF 128 zz 4 p2=([],14))/\selectF 128 x=((3,p0),0)/\selectF 128 y=((5,p1),0)/\selectF 128 zz=((3,p0),0)/\
   marksF 128 x 5=0/\marksF 128 zz 5=3/\marksF 128 zz 4= -1:=by
 obtain ⟨f,e1,fl,fb,fh,f15,f16,f17,fer⟩:=format_ok (v:=3) (p:=p0) ⟨by decide,by decide,by omega⟩ b0
 have p0h:=Hold.prog (k:=0) fh fl (by decide)
 have f17:=f17 17 (by decide) (by decide)
 have c0:=Hold.cls (k:=0) fh fl (by decide)
 rw [show 4224*0+17=17 from rfl,show 4224*0+15=15 from rfl,f17,f15] at c0
 have n1:=not_whole (z:=f) (k:=1) (by rw [fer (4224*1+14) (by omega) (by decide)];decide)
 have s0:selF f=((0:Nat):Int):=by rw [selF_eq c0 (cls_none n1)];rfl
 have fit:fitsF 5 p1:=⟨by decide,by decide,by omega⟩
 have e2:=inst_eq fl s0 fit ⟨by rw [p0h];show (3:Int)<5;decide,by rw [n1];decide⟩
 obtain ⟨X,x,x1,x2,x3,x4,x5,x6,x7,x8,x9,x10⟩:=inst_all (k:=1) fl fb (by decide) fit b1
 have il:=instL_len (v:=5) (k:=1) fl (by decide) (by omega:p1.length<=4096) (fun j h1 h2=>fer j (by omega) (by omega))
 have x7:Hold x 4224 5 p1:=x7
 have x6':∀ j,j<4224->x.getD j 0=f.getD j 0:=fun j hj=>x6.2 j (.inl hj)
 have h0x:Hold x 0 3 p0:=fh.congr (fun j hj _=>by rw [Nat.zero_add];exact x6' j (by omega))
 have px0:=Hold.prog (k:=0) h0x x4 (by decide)
 have px1:=Hold.prog (k:=1) x7 x4 (by decide)
 have fx:findF x 5=((1:Nat):Int):=find_eq (.inr ⟨rfl,by rw [px0];show (3:Int)≠5;decide,by rw [px1]⟩) (by decide)
 obtain ⟨y,y1,y2,y3,y4⟩:=mark_ok (k:=1) (m:=1) (v:=5) x4 x5 fx (by decide) (by decide)
 have y4:∀ j,y.getD j 0=if j=4239 then 0 else x.getD j 0:=y4
 have h0y:Hold y 0 3 p0:=h0x.congr (fun j hj _=>by rw [Nat.zero_add,y4,if_neg (by omega)])
 have h1y:Hold y 4224 5 p1:=x7.congr (fun j hj hn=>by rw [y4,if_neg (by omega)])
 have py0:=Hold.prog (k:=0) h0y y2 (by decide)
 have py1:=Hold.prog (k:=1) h1y y2 (by decide)
 have fy:findF y 5=((1:Nat):Int):=find_eq (.inr ⟨rfl,by rw [py0];show (3:Int)≠5;decide,by rw [py1]⟩) (by decide)
 obtain ⟨zz,z1,z2,z3,z4⟩:=mark_ok (k:=1) (m:=3) (v:=5) y2 y3 fy (by decide) (by decide)
 have z4:∀ j,zz.getD j 0=if j=4241 then 0 else y.getD j 0:=z4
 have h0z:Hold zz 0 3 p0:=h0y.congr (fun j hj _=>by rw [Nat.zero_add,z4,if_neg (by omega)])
 have h1z:Hold zz 4224 5 p1:=h1y.congr (fun j hj hn=>by rw [z4,if_neg (by omega)])
 have pz0:=Hold.prog (k:=0) h0z z2 (by decide)
 have pz1:=Hold.prog (k:=1) h1z z2 (by decide)
 have fz:findF zz 5=((1:Nat):Int):=find_eq (.inr ⟨rfl,by rw [pz0];show (3:Int)≠5;decide,by rw [pz1]⟩) (by decide)
 have g15:x.getD 15 0=0:=(x6' _ (by decide)).trans f15
 have g17:x.getD 17 0=255:=(x6' _ (by decide)).trans f17
 have w15:x.getD 4239 0=255:=x8 4239 (by decide) (by decide)
 have w16:x.getD 4240 0=255:=x8 4240 (by decide) (by decide)
 have w17:x.getD 4241 0=255:=x8 4241 (by decide) (by decide)
 have cx0:=Hold.cls (k:=0) h0x x4 (by decide)
 rw [show 4224*0+17=17 from rfl,show 4224*0+15=15 from rfl,g17,g15] at cx0
 have cx1:=Hold.cls (k:=1) x7 x4 (by decide)
 rw [show 4224*1+17=4241 from rfl,show 4224*1+15=4239 from rfl,w17,w15] at cx1
 have gy17:y.getD 17 0=255:=by rw [y4,if_neg (by decide)];exact g17
 have gy15:y.getD 15 0=0:=by rw [y4,if_neg (by decide)];exact g15
 have wy17:y.getD 4241 0=255:=by rw [y4,if_neg (by decide)];exact w17
 have wy15:y.getD 4239 0=0:=by rw [y4,if_pos rfl]
 have gz17:zz.getD 17 0=255:=by rw [z4,if_neg (by decide)];exact gy17
 have gz15:zz.getD 15 0=0:=by rw [z4,if_neg (by decide)];exact gy15
 have wz17:zz.getD 4241 0=0:=by rw [z4,if_pos rfl]
 have cy0:=Hold.cls (k:=0) h0y y2 (by decide)
 rw [show 4224*0+17=17 from rfl,show 4224*0+15=15 from rfl,gy17,gy15] at cy0
 have cy1:=Hold.cls (k:=1) h1y y2 (by decide)
 rw [show 4224*1+17=4241 from rfl,show 4224*1+15=4239 from rfl,wy17,wy15] at cy1
 have cz0:=Hold.cls (k:=0) h0z z2 (by decide)
 rw [show 4224*0+17=17 from rfl,show 4224*0+15=15 from rfl,gz17,gz15] at cz0
 have cz1:=Hold.cls (k:=1) h1z z2 (by decide)
 rw [show 4224*1+17=4241 from rfl,wz17] at cz1
 have sx:selF x=((0:Nat):Int):=by rw [selF_eq cx0 cx1];rfl
 have sy:selF y=((1:Nat):Int):=by rw [selF_eq cy0 cy1];rfl
 have sz:selF zz=((0:Nat):Int):=by rw [selF_eq cz0 cz1];rfl
 refine ⟨f,x,y,zz,X,e1,fl,select_eq fl s0 p0h,?_,by rw [e2,x1],?_,y1,z1,fun p2 hp2=>inst_old z2 sz ⟨by decide,by decide,by omega⟩ (.inr (by rw [pz1];show (4:Int)<=5;decide)),select_eq x4 sx px0,select_eq y2 sy py1,select_eq z2 sz pz0,?_,?_,?_⟩
 ·rw [marks_eq (k:=0) fl (find_eq (.inl ⟨rfl,by rw [p0h]⟩) (by decide)),show 4224*0+17=17 from rfl,show 4224*0+16=16 from rfl,f17,f16];rfl
 ·rw [x1] at il
  simp only [List.length_append,List.length_cons,List.length_nil] at il
  omega
 ·rw [marks_eq x4 fx,show 4224*1+17=4241 from rfl,show 4224*1+16=4240 from rfl,show 4224*1+15=4239 from rfl,w17,w16,w15];rfl
 ·rw [marks_eq z2 fz,show 4224*1+17=4241 from rfl,wz17];rfl
 ·unfold marksF
  rw [if_neg (fun q=>q ⟨rfl,z2⟩)]
  have :findF zz 4= -1:=by
   unfold findF
   rw [pz0,pz1]
   rw [if_neg (fun q=>absurd (show (3:Int)=4 from q.2) (by decide)),if_neg (fun q=>absurd (show (5:Int)=4 from q.2) (by decide))]
  rw [this,if_pos (by decide)]
noncomputable def tabQ4:FuncId->List SV->Mem->(SV->Mem->Prop)->Prop:=fun f args E K=>match f with
 | 11=>d2 args fun x0 x1=>dI x0 fun a1=>dS x1 fun b2 l3 c4=>∃ (zs:List Int) (s':Int) (ys:List Int) (e:Int),Bs E b2 l3 c4 zs/\formatB a1 zs=((s',ys),e)/\(∀ (b':Option Addr) (l' c':Nat) (E':Mem),Mem.le E E'->Bs E' b' l' c' ys->K (.tup [.agg [I s',L b' l' c'],I e]) E')
 | 17=>d3 args fun x0 x1 x2=>dC x0 fun l1=>d2 l1 fun x0_0 x0_1=>dI x0_0 fun a1=>dS x0_1 fun b2 l3 c4=>dI x1 fun a5=>dS x2 fun b6 l7 c8=>∃ (zs:List Int) (p:List Int) (ms:List (Int×List Int)) (e:Int),Bs E b2 l3 c4 zs/\Bs E b6 l7 c8 p/\installF a1 zs a5 p=(ms,e)/\(∀ (b':Option Addr) (l' c':Nat) (E':Mem),Mem.le E E'->FL E' b' l' c' ms->K (.tup [L b' l' c',I e]) E')
 | 19=>d3 args fun x0 x1 x2=>dC x0 fun l1=>d2 l1 fun x0_0 x0_1=>dI x0_0 fun a1=>dS x0_1 fun b2 l3 c4=>dI x1 fun a5=>dI x2 fun a6=>∃ (zs:List Int) (ms:List (Int×List Int)) (e:Int),Bs E b2 l3 c4 zs/\markF a1 zs a5 a6=(ms,e)/\(∀ (b':Option Addr) (l' c':Nat) (E':Mem),Mem.le E E'->FL E' b' l' c' ms->K (.tup [L b' l' c',I e]) E')
 | 23=>d2 args fun x0 x1=>dC x0 fun l1=>d2 l1 fun x0_0 x0_1=>dI x0_0 fun a1=>dS x0_1 fun b2 l3 c4=>dI x1 fun a5=>∃ (zs:List Int) (r:Int),Bs E b2 l3 c4 zs/\marksF a1 zs a5=r/\(∀ E':Mem,Mem.le E E'->K (I r) E')
 | 27=>d2 args fun x0 x1=>dS x0 fun b1 l2 c3=>dI x1 fun a4=>∃ (X:List (Int×List Int)) (w:List Int),FL E b1 l2 c3 (X++[(128,w)])/\a4=0/\l2<=100000/\(∀ (b':Option Addr) (l' c':Nat) (E':Mem),Mem.le E E'->Bs E' b' l' c' w->K (.tup [.agg [I 128,L b' l' c'],B true]) E')
 | 26=>d3 args fun x0 x1 x2=>dC x0 fun l1=>d2 l1 fun x0_0 x0_1=>dI x0_0 fun a1=>dS x0_1 fun b2 l3 c4=>dI x1 fun a5=>dS x2 fun b6 l7 c8=>∃ (zs:List Int) (ds:List Int),Bs E b2 l3 c4 zs/\Bs E b6 l7 c8 ds/\selectF a1 zs=((a5,ds),0)/\l7<=100000/\(∀ E':Mem,Mem.le E E'->K (B true) E')
 | 15=>d1 args fun x0=>dC x0 fun l1=>d2 l1 fun x0_0 x0_1=>dI x0_0 fun a1=>dS x0_1 fun b2 l3 c4=>∃ (zs:List Int) (v:Int) (d:List Int) (e:Int),Bs E b2 l3 c4 zs/\selectF a1 zs=((v,d),e)/\(∀ (b':Option Addr) (l' c':Nat) (E':Mem),Mem.le E E'->Bs E' b' l' c' d->K (.tup [I v,L b' l' c',I e]) E')
 | _=>False
theorem tabQ4_ok:TabOK Try.prog tabQ4:=by
 intro f args E K h
 unfold tabQ4 at h
 split at h
 ·replace h:=d2_elim h
  obtain ⟨x0,x1,rfl,h⟩:=h
  replace h:=dI_elim h
  obtain ⟨a1,rfl,h⟩:=h
  replace h:=dS_elim h
  obtain ⟨b2,l3,c4,rfl,h⟩:=h
  obtain ⟨zs,s',ys,e,g0,g1,h⟩:=h
  exact TabSem.congr (valL_cons rfl (valL_cons rfl rfl)) (esm okP6 Try.func11 rfl (q11E g0 g1 h))
 ·replace h:=d3_elim h
  obtain ⟨x0,x1,x2,rfl,h⟩:=h
  replace h:=dC_elim h
  obtain ⟨l1,hl1,h⟩:=h
  replace h:=d2_elim h
  obtain ⟨x0_0,x0_1,rfl,h⟩:=h
  replace h:=dI_elim h
  obtain ⟨a1,rfl,h⟩:=h
  replace h:=dS_elim h
  obtain ⟨b2,l3,c4,rfl,h⟩:=h
  replace h:=dI_elim h
  obtain ⟨a5,rfl,h⟩:=h
  replace h:=dS_elim h
  obtain ⟨b6,l7,c8,rfl,h⟩:=h
  obtain ⟨zs,p,ms,e,g0,g1,g2,h⟩:=h
  exact TabSem.congr (valL_cons (asCells_val hl1) (valL_cons rfl (valL_cons rfl rfl))) (esm okP7 Try.func17 rfl (q17E g0 g1 g2 h))
 ·replace h:=d3_elim h
  obtain ⟨x0,x1,x2,rfl,h⟩:=h
  replace h:=dC_elim h
  obtain ⟨l1,hl1,h⟩:=h
  replace h:=d2_elim h
  obtain ⟨x0_0,x0_1,rfl,h⟩:=h
  replace h:=dI_elim h
  obtain ⟨a1,rfl,h⟩:=h
  replace h:=dS_elim h
  obtain ⟨b2,l3,c4,rfl,h⟩:=h
  replace h:=dI_elim h
  obtain ⟨a5,rfl,h⟩:=h
  replace h:=dI_elim h
  obtain ⟨a6,rfl,h⟩:=h
  obtain ⟨zs,ms,e,g0,g1,h⟩:=h
  exact TabSem.congr (valL_cons (asCells_val hl1) (valL_cons rfl (valL_cons rfl rfl))) (esm okP5 Try.func19 rfl (q19E g0 g1 h))
 ·replace h:=d2_elim h
  obtain ⟨x0,x1,rfl,h⟩:=h
  replace h:=dC_elim h
  obtain ⟨l1,hl1,h⟩:=h
  replace h:=d2_elim h
  obtain ⟨x0_0,x0_1,rfl,h⟩:=h
  replace h:=dI_elim h
  obtain ⟨a1,rfl,h⟩:=h
  replace h:=dS_elim h
  obtain ⟨b2,l3,c4,rfl,h⟩:=h
  replace h:=dI_elim h
  obtain ⟨a5,rfl,h⟩:=h
  obtain ⟨zs,r,g0,g1,h⟩:=h
  exact TabSem.congr (valL_cons (asCells_val hl1) (valL_cons rfl rfl)) (esm okP5 Try.func23 rfl (q23E g0 g1 h))
 ·replace h:=d2_elim h
  obtain ⟨x0,x1,rfl,h⟩:=h
  replace h:=dS_elim h
  obtain ⟨b1,l2,c3,rfl,h⟩:=h
  replace h:=dI_elim h
  obtain ⟨a4,rfl,h⟩:=h
  obtain ⟨X,w,g0,g1,g2,h⟩:=h
  exact TabSem.congr (valL_cons rfl (valL_cons rfl rfl)) (esm okQ2 Try.func27 rfl (q27H g0 g1 g2 h))
 ·replace h:=d3_elim h
  obtain ⟨x0,x1,x2,rfl,h⟩:=h
  replace h:=dC_elim h
  obtain ⟨l1,hl1,h⟩:=h
  replace h:=d2_elim h
  obtain ⟨x0_0,x0_1,rfl,h⟩:=h
  replace h:=dI_elim h
  obtain ⟨a1,rfl,h⟩:=h
  replace h:=dS_elim h
  obtain ⟨b2,l3,c4,rfl,h⟩:=h
  replace h:=dI_elim h
  obtain ⟨a5,rfl,h⟩:=h
  replace h:=dS_elim h
  obtain ⟨b6,l7,c8,rfl,h⟩:=h
  obtain ⟨zs,ds,g0,g1,g2,g3,h⟩:=h
  exact TabSem.congr (valL_cons (asCells_val hl1) (valL_cons rfl (valL_cons rfl rfl))) (esm okQ3 Try.func26 rfl (q26H g0 g1 g2 g3 h))
 ·replace h:=d1_elim h
  obtain ⟨x0,rfl,h⟩:=h
  replace h:=dC_elim h
  obtain ⟨l1,hl1,h⟩:=h
  replace h:=d2_elim h
  obtain ⟨x0_0,x0_1,rfl,h⟩:=h
  replace h:=dI_elim h
  obtain ⟨a1,rfl,h⟩:=h
  replace h:=dS_elim h
  obtain ⟨b2,l3,c4,rfl,h⟩:=h
  obtain ⟨zs,v,d,e,g0,g1,h⟩:=h
  exact TabSem.congr (valL_cons (asCells_val hl1) rfl) (esm okP4 Try.func15 rfl (q15E g0 g1 h))
 ·exact h.elim
noncomputable def Q4:Cx:={ P:=Try.prog,inl:=fun f=>List.contains [28] f,tab:=tabQ4,isB:=fun _=>false,tabB:=fun _ _ _ _ _=>False,opt:={ unroll:=0,carry:=[] },muts:=mutsD }
theorem okQ4:CxOK Q4:=CxOK.four tabQ4_ok (by kernel_rfl) (okInl (by kernel_rfl)) (fun _ _ _ _ _ h=>h.elim)
theorem q10 (h:∀ E':Mem,Mem.le E E'->K (B true) E'):
  Ent Q4 8 Try.f10 [] E K:=by
 refine sm_ (?_:∀ (base:Option Addr) (E':Mem),Mem.le E E'->WinE E' base [U8 97,U8 98]->∃ (zs:List Int),∃ (s':Int),∃ (ys:List Int),∃ (e:Int),Bs E' (Option.map (fun (x:Addr)=>Addr.add x 0) base) 2 2 zs/\formatB 3 zs=((s',ys),e)/\∀ (b':Option Addr) (l' c':Nat) (E'_1:Mem),Mem.le E' E'_1->Bs E'_1 b' l' c' ys->bif e !=(0:Int) then Mem.le E E'_1/\K (B false) E'_1 else bif s'==(128:Int) then Mem.le E'_1 E'_1/\bif bif false then true else !bif true then (NI l')==8448 else false then Mem.le E E'_1/\K (B false) E'_1 else ∀ (base:Option Addr) (E':Mem),Mem.le E'_1 E'->WinE E' base [U8 97,U8 98]->∃ (zs:List Int),∃ (ds:List Int),Bs E' b' l' c' zs/\Bs E' (Option.map (fun (x:Addr)=>Addr.add x 0) base) 2 2 ds/\selectF s' zs=(((3:Int),ds),(0:Int))/\2<=100000/\∀ (E'_2:Mem),Mem.le E' E'_2->∃ (zs:List Int),∃ (r:Int),Bs E'_2 b' l' c' zs/\marksF s' zs (3:Int)=r/\∀ (E':Mem),Mem.le E'_2 E'->Mem.le E'_2 E'/\bif bif false then true else r !=(2:Int) then Mem.le E E'/\K (B false) E' else ∀ (base:Option Addr) (E'_3:Mem),Mem.le E' E'_3->WinE E'_3 base [U8 99]->∃ (zs:List Int),∃ (p:List Int),∃ (ms:List (Int×List Int)),∃ (e:Int),Bs E'_3 b' l' c' zs/\Bs E'_3 (Option.map (fun (x:Addr)=>Addr.add x 0) base) 1 1 p/\installF s' zs 5 p=(ms,e)/\∀ (b':Option Addr) (l' c':Nat) (E':Mem),Mem.le E'_3 E'->FL E' b' l' c' ms->∃ (X:List (Int×List Int)),∃ (w:List Int),FL E' b' l' c' (X++[((128:Int),w)])/\e=(0:Int)/\l'<=(100000:Nat)/\∀ (b':Option Addr) (l'_1 c':Nat) (E'_4:Mem),Mem.le E' E'_4->Bs E'_4 b' l'_1 c' w->Mem.le E' E'_4/\∃ (zs:List Int),∃ (ms:List (Int×List Int)),∃ (e:Int),Bs E'_4 b' l'_1 c' zs/\markF 128 zs 5 (1:Int)=(ms,e)/\∀ (b'_1:Option Addr) (l'_2 c'_1:Nat) (E':Mem),Mem.le E'_4 E'->FL E' b'_1 l'_2 c'_1 ms->Mem.le E'_4 E'/\∃ (X:List (Int×List Int)),∃ (w:List Int),FL E' b'_1 l'_2 c'_1 (X++[((128:Int),w)])/\e=(0:Int)/\l'_2<=(100000:Nat)/\∀ (b'_2:Option Addr) (l'_3 c'_2:Nat) (E'_5:Mem),Mem.le E' E'_5->Bs E'_5 b'_2 l'_3 c'_2 w->Mem.le E' E'_5/\∃ (zs:List Int),∃ (ms:List (Int×List Int)),∃ (e:Int),Bs E'_5 b'_2 l'_3 c'_2 zs/\markF 128 zs 5 (3:Int)=(ms,e)/\∀ (b'_3:Option Addr) (l'_4 c'_3:Nat) (E':Mem),Mem.le E'_5 E'->FL E' b'_3 l'_4 c'_3 ms->Mem.le E'_5 E'/\∃ (X:List (Int×List Int)),∃ (w:List Int),FL E' b'_3 l'_4 c'_3 (X++[((128:Int),w)])/\e=(0:Int)/\l'_4<=(100000:Nat)/\∀ (b'_4:Option Addr) (l'_5 c'_4:Nat) (E'_6:Mem),Mem.le E' E'_6->Bs E'_6 b'_4 l'_5 c'_4 w->Mem.le E' E'_6/\∀ (base:Option Addr) (E':Mem),Mem.le E'_6 E'->WinE E' base [U8 100]->∃ (zs:List Int),∃ (p:List Int),∃ (ms:List (Int×List Int)),∃ (e:Int),Bs E' b'_4 l'_5 c'_4 zs/\Bs E' (Option.map (fun (x:Addr)=>Addr.add x 0) base) 1 1 p/\installF 128 zs 4 p=(ms,e)/\∀ (b'_5:Option Addr) (l'_6 c'_5:Nat) (E'_7:Mem),Mem.le E' E'_7->FL E'_7 b'_5 l'_6 c'_5 ms->∃ (zs:List Int),∃ (v:Int),∃ (d:List Int),∃ (e_1:Int),Bs E'_7 none 0 0 zs/\(((0:Int),[]),(1:Int))=((v,d),e_1)/\∀ (b'_6:Option Addr) (l'_7 c'_6:Nat) (E':Mem),Mem.le E'_7 E'->Bs E' b'_6 l'_7 c'_6 d->Mem.le E'_7 E'/\bif bif true then (NI l')==17 else false then bif bif true then (NI l'_2)==2 else false then ∀ (base:Option Addr) (E'_8:Mem),Mem.le E' E'_8->WinE E'_8 base [U8 97,U8 98]->∃ (zs:List Int),∃ (ds:List Int),Bs E'_8 b' l'_1 c' zs/\Bs E'_8 (Option.map (fun (x:Addr)=>Addr.add x 0) base) 2 2 ds/\selectF 128 zs=(((3:Int),ds),(0:Int))/\(2:Nat)<=(100000:Nat)/\∀ (E':Mem),Mem.le E'_8 E'->∀ (base:Option Addr) (E'_9:Mem),Mem.le E' E'_9->WinE E'_9 base [U8 99]->∃ (zs:List Int),∃ (ds:List Int),Bs E'_9 b'_2 l'_3 c'_2 zs/\Bs E'_9 (Option.map (fun (x:Addr)=>Addr.add x 0) base) 1 1 ds/\selectF 128 zs=(((5:Int),ds),(0:Int))/\(1:Nat)<=(100000:Nat)/\∀ (E':Mem),Mem.le E'_9 E'->∀ (base:Option Addr) (E'_10:Mem),Mem.le E' E'_10->WinE E'_10 base [U8 97,U8 98]->∃ (zs:List Int),∃ (ds:List Int),Bs E'_10 b'_4 l'_5 c'_4 zs/\Bs E'_10 (Option.map (fun (x:Addr)=>Addr.add x 0) base) 2 2 ds/\selectF 128 zs=(((3:Int),ds),(0:Int))/\(2:Nat)<=(100000:Nat)/\∀ (E':Mem),Mem.le E'_10 E'->∃ (zs:List Int),∃ (r:Int),Bs E' b' l'_1 c' zs/\marksF 128 zs (5:Int)=r/\∀ (E'_11:Mem),Mem.le E' E'_11->Mem.le E' E'_11/\bif bif true then r==(0:Int) else false then ∃ (zs:List Int),∃ (r:Int),Bs E'_11 b'_4 l'_5 c'_4 zs/\marksF 128 zs (5:Int)=r/\∀ (E':Mem),Mem.le E'_11 E'->Mem.le E'_11 E'/\bif bif true then r==(3:Int) else false then ∃ (zs:List Int),∃ (r:Int),Bs E' b'_4 l'_5 c'_4 zs/\marksF 128 zs (4:Int)=r/\∀ (E'_12:Mem),Mem.le E' E'_12->Mem.le E' E'_12/\bif bif true then r==(-1:Int) else false then bif bif true then e==(14:Int) else false then Mem.le E E'_12/\K (B (bif true then e_1==(1:Int) else false)) E'_12 else Mem.le E E'_12/\K (B false) E'_12 else Mem.le E E'_12/\K (B false) E'_12 else Mem.le E E'/\K (B false) E' else Mem.le E E'_11/\K (B false) E'_11 else Mem.le E E'/\K (B false) E' else Mem.le E E'/\K (B false) E' else Mem.le E'_1 E'_1/\Mem.le E E'_1/\K (B false) E'_1)
 delta NI U8
 obtain ⟨f,x,y,zz,X,e1,fl,e2,e3,e4,xl,e5,e6,e7,e8,e9,e10,e11,e12,e13⟩:=head_ok (p0:=[97,98]) (p1:=[99]) (by decide) rfl (by decide) (by decide)
 refine fun c0 E1 k1 w1=>?_
 have le1:Mem.le E E1:=mt_ (Mem.le_refl E) k1
 have BA:=Bs.win (zs:=[97,98]) w1 rfl rfl (Nat.le_refl _) (by decide)
 refine ⟨[97,98],128,f,0,BA,e1,fun b1 l1 c1 E2 k2 Bf=>?_⟩
 have le2:Mem.le E E2:=mt_ le1 k2
 have BA:=BA.mono k2
 have l1e:l1=8448:=by rw [← Bf.2.1,fl]
 subst l1e
 refine condC (fun g=>absurd g (by decide)) (fun _=>condC (fun _=>⟨mr_,condC (fun g=>absurd g (by decide)) (fun _=>?_)⟩) (fun g=>absurd g (by decide)))
 refine fun c2 E3 k3 w3=>?_
 have le3:Mem.le E E3:=mt_ le2 k3
 have BA:=BA.mono k3
 have Bf:=Bf.mono k3
 have BA2:=Bs.win (zs:=[97,98]) w3 rfl rfl (Nat.le_refl _) (by decide)
 refine ⟨f,_,Bf,BA2,e2,by decide,fun E4 k4=>?_⟩
 have le4:Mem.le E E4:=mt_ le3 k4
 have BA:=BA.mono k4
 have Bf:=Bf.mono k4
 have BA2:=BA2.mono k4
 refine ⟨f,2,Bf,e3,fun E5 k5=>?_⟩
 have le5:Mem.le E E5:=mt_ le4 k5
 have BA:=BA.mono k5
 have Bf:=Bf.mono k5
 have BA2:=BA2.mono k5
 refine ⟨k5,condC (fun g=>absurd g (by decide)) (fun _=>?_)⟩
 refine fun c3 E6 k6 w6=>?_
 have le6:Mem.le E E6:=mt_ le5 k6
 have BA:=BA.mono k6
 have Bf:=Bf.mono k6
 have BA2:=BA2.mono k6
 have BC:=Bs.win (zs:=[99]) w6 rfl rfl (Nat.le_refl _) (by decide)
 refine ⟨f,_,_,0,Bf,BC,e4,fun b2 l2 c4 E7 k7 Fx=>?_⟩
 have le7:Mem.le E E7:=mt_ le6 k7
 have BA:=BA.mono k7
 have Bf:=Bf.mono k7
 have BA2:=BA2.mono k7
 have BC:=BC.mono k7
 have l2e:=Fx.len
 rw [List.length_append,xl] at l2e
 have l2e:17=l2:=l2e
 subst l2e
 refine ⟨X,x,Fx,rfl,by decide,fun b3 l3 c5 E8 k8 Bx=>?_⟩
 have le8:Mem.le E E8:=mt_ le7 k8
 have BA:=BA.mono k8
 have Bf:=Bf.mono k8
 have BA2:=BA2.mono k8
 have BC:=BC.mono k8
 have Fx:=Fx.mono k8
 refine ⟨k8,x,_,0,Bx,e5,fun b4 l4 c6 E9 k9 Fy=>?_⟩
 have le9:Mem.le E E9:=mt_ le8 k9
 have BA:=BA.mono k9
 have Bf:=Bf.mono k9
 have BA2:=BA2.mono k9
 have BC:=BC.mono k9
 have Fx:=Fx.mono k9
 have Bx:=Bx.mono k9
 have l4e:=Fy.len
 have l4e:2=l4:=l4e
 subst l4e
 refine ⟨k9,[(128,x)],y,Fy,rfl,by decide,fun b5 l5 c7 E10 k10 By=>?_⟩
 have le10:Mem.le E E10:=mt_ le9 k10
 have BA:=BA.mono k10
 have Bf:=Bf.mono k10
 have BA2:=BA2.mono k10
 have BC:=BC.mono k10
 have Fx:=Fx.mono k10
 have Bx:=Bx.mono k10
 have Fy:=Fy.mono k10
 refine ⟨k10,y,_,0,By,e6,fun b6 l6 c8 E11 k11 Fz=>?_⟩
 have le11:Mem.le E E11:=mt_ le10 k11
 have BA:=BA.mono k11
 have Bf:=Bf.mono k11
 have BA2:=BA2.mono k11
 have BC:=BC.mono k11
 have Fx:=Fx.mono k11
 have Bx:=Bx.mono k11
 have Fy:=Fy.mono k11
 have By:=By.mono k11
 have l6e:=Fz.len
 have l6e:2=l6:=l6e
 subst l6e
 refine ⟨k11,[(128,y)],zz,Fz,rfl,by decide,fun b7 l7 c9 E12 k12 Bz=>?_⟩
 have le12:Mem.le E E12:=mt_ le11 k12
 have BA:=BA.mono k12
 have Bf:=Bf.mono k12
 have BA2:=BA2.mono k12
 have BC:=BC.mono k12
 have Fx:=Fx.mono k12
 have Bx:=Bx.mono k12
 have Fy:=Fy.mono k12
 have By:=By.mono k12
 have Fz:=Fz.mono k12
 refine ⟨k12,?_⟩
 refine fun c10 E13 k13 w13=>?_
 have le13:Mem.le E E13:=mt_ le12 k13
 have BA:=BA.mono k13
 have Bf:=Bf.mono k13
 have BA2:=BA2.mono k13
 have BC:=BC.mono k13
 have Fx:=Fx.mono k13
 have Bx:=Bx.mono k13
 have Fy:=Fy.mono k13
 have By:=By.mono k13
 have Fz:=Fz.mono k13
 have Bz:=Bz.mono k13
 have BD:=Bs.win (zs:=[100]) w13 rfl rfl (Nat.le_refl _) (by decide)
 refine ⟨zz,_,_,14,Bz,BD,e7 [100] (by decide),fun b8 l8 c11 E14 k14 Fe=>?_⟩
 have le14:Mem.le E E14:=mt_ le13 k14
 have BA:=BA.mono k14
 have Bf:=Bf.mono k14
 have BA2:=BA2.mono k14
 have BC:=BC.mono k14
 have Fx:=Fx.mono k14
 have Bx:=Bx.mono k14
 have Fy:=Fy.mono k14
 have By:=By.mono k14
 have Fz:=Fz.mono k14
 have Bz:=Bz.mono k14
 have BD:=BD.mono k14
 refine ⟨[],0,[],1,Bs.nil _,rfl,fun b9 l9 c12 E15 k15 Be=>?_⟩
 have le15:Mem.le E E15:=mt_ le14 k15
 have BA:=BA.mono k15
 have Bf:=Bf.mono k15
 have BA2:=BA2.mono k15
 have BC:=BC.mono k15
 have Fx:=Fx.mono k15
 have Bx:=Bx.mono k15
 have Fy:=Fy.mono k15
 have By:=By.mono k15
 have Fz:=Fz.mono k15
 have Bz:=Bz.mono k15
 have BD:=BD.mono k15
 have Fe:=Fe.mono k15
 refine ⟨k15,condC (fun _=>condC (fun _=>?_) (fun g=>absurd g (by decide))) (fun g=>absurd g (by decide))⟩
 refine fun c13 E16 k16 w16=>?_
 have le16:Mem.le E E16:=mt_ le15 k16
 have BA:=BA.mono k16
 have Bf:=Bf.mono k16
 have BA2:=BA2.mono k16
 have BC:=BC.mono k16
 have Fx:=Fx.mono k16
 have Bx:=Bx.mono k16
 have Fy:=Fy.mono k16
 have By:=By.mono k16
 have Fz:=Fz.mono k16
 have Bz:=Bz.mono k16
 have BD:=BD.mono k16
 have Fe:=Fe.mono k16
 have Be:=Be.mono k16
 have BG:=Bs.win (zs:=[97,98]) w16 rfl rfl (Nat.le_refl _) (by decide)
 refine ⟨x,_,Bx,BG,e8,by decide,fun E17 k17=>?_⟩
 have le17:Mem.le E E17:=mt_ le16 k17
 have BA:=BA.mono k17
 have Bf:=Bf.mono k17
 have BA2:=BA2.mono k17
 have BC:=BC.mono k17
 have Fx:=Fx.mono k17
 have Bx:=Bx.mono k17
 have Fy:=Fy.mono k17
 have By:=By.mono k17
 have Fz:=Fz.mono k17
 have Bz:=Bz.mono k17
 have BD:=BD.mono k17
 have Fe:=Fe.mono k17
 have Be:=Be.mono k17
 have BG:=BG.mono k17
 refine fun c14 E18 k18 w18=>?_
 have le18:Mem.le E E18:=mt_ le17 k18
 have BA:=BA.mono k18
 have Bf:=Bf.mono k18
 have BA2:=BA2.mono k18
 have BC:=BC.mono k18
 have Fx:=Fx.mono k18
 have Bx:=Bx.mono k18
 have Fy:=Fy.mono k18
 have By:=By.mono k18
 have Fz:=Fz.mono k18
 have Bz:=Bz.mono k18
 have BD:=BD.mono k18
 have Fe:=Fe.mono k18
 have Be:=Be.mono k18
 have BG:=BG.mono k18
 have BH:=Bs.win (zs:=[99]) w18 rfl rfl (Nat.le_refl _) (by decide)
 refine ⟨y,_,By,BH,e9,by decide,fun E19 k19=>?_⟩
 have le19:Mem.le E E19:=mt_ le18 k19
 have BA:=BA.mono k19
 have Bf:=Bf.mono k19
 have BA2:=BA2.mono k19
 have BC:=BC.mono k19
 have Fx:=Fx.mono k19
 have Bx:=Bx.mono k19
 have Fy:=Fy.mono k19
 have By:=By.mono k19
 have Fz:=Fz.mono k19
 have Bz:=Bz.mono k19
 have BD:=BD.mono k19
 have Fe:=Fe.mono k19
 have Be:=Be.mono k19
 have BG:=BG.mono k19
 have BH:=BH.mono k19
 refine fun c15 E20 k20 w20=>?_
 have le20:Mem.le E E20:=mt_ le19 k20
 have BA:=BA.mono k20
 have Bf:=Bf.mono k20
 have BA2:=BA2.mono k20
 have BC:=BC.mono k20
 have Fx:=Fx.mono k20
 have Bx:=Bx.mono k20
 have Fy:=Fy.mono k20
 have By:=By.mono k20
 have Fz:=Fz.mono k20
 have Bz:=Bz.mono k20
 have BD:=BD.mono k20
 have Fe:=Fe.mono k20
 have Be:=Be.mono k20
 have BG:=BG.mono k20
 have BH:=BH.mono k20
 have BI:=Bs.win (zs:=[97,98]) w20 rfl rfl (Nat.le_refl _) (by decide)
 refine ⟨zz,_,Bz,BI,e10,by decide,fun E21 k21=>?_⟩
 have le21:Mem.le E E21:=mt_ le20 k21
 have BA:=BA.mono k21
 have Bf:=Bf.mono k21
 have BA2:=BA2.mono k21
 have BC:=BC.mono k21
 have Fx:=Fx.mono k21
 have Bx:=Bx.mono k21
 have Fy:=Fy.mono k21
 have By:=By.mono k21
 have Fz:=Fz.mono k21
 have Bz:=Bz.mono k21
 have BD:=BD.mono k21
 have Fe:=Fe.mono k21
 have Be:=Be.mono k21
 have BG:=BG.mono k21
 have BH:=BH.mono k21
 have BI:=BI.mono k21
 refine ⟨x,0,Bx,e11,fun E22 k22=>?_⟩
 have le22:Mem.le E E22:=mt_ le21 k22
 have BA:=BA.mono k22
 have Bf:=Bf.mono k22
 have BA2:=BA2.mono k22
 have BC:=BC.mono k22
 have Fx:=Fx.mono k22
 have Bx:=Bx.mono k22
 have Fy:=Fy.mono k22
 have By:=By.mono k22
 have Fz:=Fz.mono k22
 have Bz:=Bz.mono k22
 have BD:=BD.mono k22
 have Fe:=Fe.mono k22
 have Be:=Be.mono k22
 have BG:=BG.mono k22
 have BH:=BH.mono k22
 have BI:=BI.mono k22
 refine ⟨k22,condC (fun _=>?_) (fun g=>absurd g (by decide))⟩
 refine ⟨zz,3,Bz,e12,fun E23 k23=>?_⟩
 have le23:Mem.le E E23:=mt_ le22 k23
 have BA:=BA.mono k23
 have Bf:=Bf.mono k23
 have BA2:=BA2.mono k23
 have BC:=BC.mono k23
 have Fx:=Fx.mono k23
 have Bx:=Bx.mono k23
 have Fy:=Fy.mono k23
 have By:=By.mono k23
 have Fz:=Fz.mono k23
 have Bz:=Bz.mono k23
 have BD:=BD.mono k23
 have Fe:=Fe.mono k23
 have Be:=Be.mono k23
 have BG:=BG.mono k23
 have BH:=BH.mono k23
 have BI:=BI.mono k23
 refine ⟨k23,condC (fun _=>?_) (fun g=>absurd g (by decide))⟩
 refine ⟨zz, -1,Bz,e13,fun E24 k24=>?_⟩
 have le24:Mem.le E E24:=mt_ le23 k24
 have BA:=BA.mono k24
 have Bf:=Bf.mono k24
 have BA2:=BA2.mono k24
 have BC:=BC.mono k24
 have Fx:=Fx.mono k24
 have Bx:=Bx.mono k24
 have Fy:=Fy.mono k24
 have By:=By.mono k24
 have Fz:=Fz.mono k24
 have Bz:=Bz.mono k24
 have BD:=BD.mono k24
 have Fe:=Fe.mono k24
 have Be:=Be.mono k24
 have BG:=BG.mono k24
 have BH:=BH.mono k24
 have BI:=BI.mono k24
 refine ⟨k24,condC (fun _=>condC (fun _=>⟨le24,h E24 le24⟩) (fun g=>absurd g (by decide))) (fun g=>absurd g (by decide))⟩
end Go.Proofs.Ytdblighgcpabnaa.BootOwn
