/- What functions of the program compute; plain lemmas on it. Conditions: none. -/
import Derived.Test.YtnjmojacdkjfoaaBb12
namespace Go.Proofs.Ytnjmojacdkjfoaa.BeaconOwn
open Go Go.Sx
set_option maxRecDepth 100000
set_option maxHeartbeats 4000000
set_option linter.unusedVariables false
set_option linter.unusedSimpArgs false
variable {E:Mem} {K:SV->Mem->Prop}
variable {x zs ys:List Int} {s s' s0:Int×Int} {xs:List (List Int)} {hi:Int} {k r i l m tot c p off:Nat} {q:IntKind} {E:Mem} {v19 v18 v0 v14 v12 v29 v17 v25 v8 v26 v16 v7 v10 v15 v4 v5 v21 v2 v22 v1 v9 v13 v3 v20 v24 v23 v28 v27 v6 v11:Value} {b:Option Addr} {KK Q:KT} {bx:List Box}
noncomputable def Z2:Cx:={ P:=Try.prog,inl:=fun f=>List.contains [] f,tab:=fun _ _ _ _=>False,isB:=fun f=>f==125||f==85||f==88||f==90||f==92||f==94||f==68||f==96,tabB:=tabBRL,opt:={ unroll:=0,carry:=[38] },muts:=(fun o=>match o with | .call _=>true|o=>mutsD o) }
theorem okZ2:CxOK Z2:=CxOK.four (fun _ _ _ _ h=>h.elim) (by kernel_rfl) (okInl (by kernel_rfl)) tabBRL_ok
def rRs (cf:Nat) (zs:List Int):Nat->(Int×Int)->List (List Int)×(Int×Int)
 | 0,s=>([],s)
 | n+1,s=>match rRs cf zs n s with
  | (xs,s1)=>match rEl cf zs s1 with
   | (x,s2)=>(xs++[x],s2)
def rLs (cf:Nat) (hi:Int) (zs:List Int) (s:Int×Int):List (List Int)×(Int×Int):=match rnum zs s 0 hi with
 | (n,s1)=>rRs cf zs n.toNat s1
structure RdL (cf:Nat) (hi:Int) (zs:List Int) (s:Int×Int) (xs:List (List Int)) (s':Int×Int):Prop where
 eq:rLs cf hi zs s=(xs,s')
theorem rRs_succ {cf n:Nat} {s1 s2:Int×Int} (h:rRs cf zs n s=(xs,s1)) (h2:rEl cf zs s1=(x,s2)):rRs cf zs (n+1) s=(xs++[x],s2):=by
 unfold rRs;rw [h];simp only;rw [h2]
theorem rnum_range {lo v:Int} (h:rnum zs s lo hi=(v,s')) (hl:lo<=hi):lo<=v/\v<=hi:=by
 unfold rnum at h
 split at h
 ·cases h;omega
 ·split at h
  split at h
  ·cases h;omega
  ·split at h
   ·cases h;omega
   ·cases h;omega
theorem rItem_len (st:List Int×(Int×Int)) (it:Item):(rItem zs st it).1.length=st.1.length:=by
 unfold rItem
 split
 ·split;simp
 ·simp
theorem rI_foldl {zs:List Int}:∀ (its:List Item) (st:List Int×(Int×Int)),(its.foldl (rItem zs) st).1.length=st.1.length
 | [],st=>rfl
 | it::its,st=>by rw [List.foldl_cons,rI_foldl its,rItem_len]
theorem rI_len {its:List Item} (h:rI its k zs s=(x,s')):x.length=k:=by
 have:=rI_foldl (zs:=zs) its (List.replicate k 0,s)
 unfold rI at h
 rw [h] at this;simpa using this
theorem rD_len (h:rD zs s=(x,s')):x.length=1:=by
 unfold rD at h
 split at h
 cases h;rfl
theorem layI_next {A:List Int} (hx:x.length=k):layI (A++List.replicate (k+r) 0) A.length x=(A++x)++List.replicate r 0:=by
 unfold layI
 rw [List.take_left' rfl,hx,← List.drop_drop,List.drop_left' rfl,List.drop_replicate,Nat.add_sub_cancel_left]
theorem flat_len {k:Nat}:∀ {xs:List (List Int)},(∀ x∈xs,x.length=k)->xs.flatten.length=xs.length*k
 | [],_=>by simp
 | x::xs,h=>by
  rw [List.flatten_cons,List.length_append,h x (by simp),flat_len (fun y hy=>h y (by simp [hy])),List.length_cons,Nat.succ_mul];omega
theorem getD_pad {A:List Int} (h:A.length=i):(A++List.replicate r 0).getD i 0=0:=by
 rw [List.getD_eq_getElem?_getD,List.getElem?_append_right (by omega),List.getElem?_replicate]
 split<;>rfl
theorem zeros_int {n:Nat} {z:List Value} (h:z=(List.replicate k 0).map (.int q)):zerosV z n=(List.replicate (n*k) 0).map (.int q):=by
 subst h
 unfold zerosV
 induction n with
 | zero=>simp
 | succ n ih=>
  rw [List.replicate_succ,List.flatten_cons,ih,← List.map_append,List.replicate_append_replicate]
  congr 2;rw [Nat.succ_mul];omega
theorem SLr_RK (h:∀ x∈xs,x.length=k):SLr (RK q k) E (xs.map fun x=>x.map (Value.int q)) xs:=by
 refine ⟨by simp,fun i r x h1 h2=>?_⟩
 rw [List.getElem?_map,h2] at h1
 simp only [Option.map_some,Option.some.injEq] at h1
 exact ⟨h1.symm,h x (List.mem_of_getElem? h2)⟩
theorem flat_map:xs.flatten.map (Value.int q)=(xs.map fun x=>x.map (Value.int q)).flatten:=by
 induction xs with
 | nil=>rfl
 | cons x xs ih=>simp [ih]
theorem rEl85_len (h:rEl 85 zs s=(x,s')):x.length=4:=rI_len (its:=its85) h
def shL84_11 (b:Option Addr) (l c:Nat) (s0:Int×Int) (v0 v1 v2 v3 v4 v5 v6 v7 v8 v9 v10 v12 v13 v14 v15 v16 v17 v18 v19 v20 v21 v22 v23 v24 v25 v26 v27 v28 v29:Value) (hi:Int) (m i tot:Nat) (ys:List Int) (E:Mem):St:=⟨[some (.ifc 79 (.loc 0 0)),oc 1 11,oI hi,some (.clo 85 [] [.loc 2 0]),none,none,none,none,none,none,none,none,none,none,none,none,none,none,none,none,none,none,none,none,none,none,none,none,none,none,none,none,none,none,none,none,none,oI (m:Nat),oI (i:Nat)]++List.replicate 10 none,[rBox b l c s0,⟨40,.lst [.raw v0,.raw v1,.raw v2,.raw v3,.raw v4,.raw v5,.raw v6,.raw v7,.raw v8,.raw v9,.raw v10,.slc 3 0 m m,.raw v12,.raw v13,.raw v14,.raw v15,.raw v16,.raw v17,.raw v18,.raw v19,.raw v20,.raw v21,.raw v22,.raw v23,.raw v24,.raw v25,.raw v26,.raw v27,.raw v28,.raw v29],30,true⟩,⟨129,.lst [.ifc 79 (.loc 0 0)],1,true⟩,⟨95,.vals ((ys).map (.int .i64)),tot,true⟩],E⟩
theorem rn84_11 (hB:Bs E b l c zs) (hl:l<=100000) (ha:0<=s0.1/\s0.1<=l) (hi':i<=m) (hm:m<=60) (hy:ys.length=m*4)
  (h:i=m->KK (.tup []) [rBox b l c s0,⟨40,.lst [.raw v0,.raw v1,.raw v2,.raw v3,.raw v4,.raw v5,.raw v6,.raw v7,.raw v8,.raw v9,.raw v10,.slc 3 0 m m,.raw v12,.raw v13,.raw v14,.raw v15,.raw v16,.raw v17,.raw v18,.raw v19,.raw v20,.raw v21,.raw v22,.raw v23,.raw v24,.raw v25,.raw v26,.raw v27,.raw v28,.raw v29],30,true⟩,⟨129,.lst [.ifc 79 (.loc 0 0)],1,true⟩,⟨95,.vals ((ys).map (.int .i64)),tot,true⟩] E) (hQ:∀ s bx' E',cloK 3 KK s bx' E'->Q s bx' E')
  (ih:i<m->∀ (x:List Int) (s':Int×Int) (E':Mem),Mem.le E E'->rEl 85 zs s0=(x,s')->0<=s'.1/\s'.1<=l->Lp Z2 6 Try.f84 [1,1,1,1,1,0] 3 Q (shL84_11 b l c s' v0 v1 v2 v3 v4 v5 v6 v7 v8 v9 v10 v12 v13 v14 v15 v16 v17 v18 v19 v20 v21 v22 v23 v24 v25 v26 v27 v28 v29 hi m (i+1) tot (layI ys (i*4) x) E')):
  Rnd Z2 6 Try.f84 [1,1,1,1,1,0] 3 Q (shL84_11 b l c s0 v0 v1 v2 v3 v4 v5 v6 v7 v8 v9 v10 v12 v13 v14 v15 v16 v17 v18 v19 v20 v21 v22 v23 v24 v25 v26 v27 v28 v29 hi m i tot ys E):=by
 refine sm_ (?_:bif decide ((NI i)<(NI m)) then req (0<=(NI i)/\(NI i)<(NI m)) ((129=129/\79=79/\1=1)/\∃ (zs:List Int),((81=81/\3=3/\Sx.Alike al2 (IntKind.i64=IntKind.i64))/\Bs E b l c zs/\l<=100000/\0<=s0.fst/\s0.fst<=(NI l))/\∃ (ys_1:List Int),(List.map (Value.int IntKind.i64) ys=List.map (Value.int IntKind.i64) ys_1/\0+Int.toNat (NI i)*4+4<=List.length ys_1/\(95=81->False)/\(95=129->False))/\True/\∀ (x:List Int) (s':Int×Int) (E':Mem),Mem.le E E'->RdE 85 zs (s0.fst,s0.snd) x s'->0<=s'.fst/\s'.fst<=(NI l)->Lp Z2 6 Try.f84 [1,1,1,1,1,0] 3 Q { fr:=some (SV.ifc 79 (SV.loc 0 0))::oc 1 11::oI hi::some (SV.clo 85 [] [SV.loc 2 0])::no32 (none::(oI (NI m)::oI (WI ((NI i)+1))::no8 (no2 []))),bx:=[(⟨81,.lst [L b l c,I s'.fst,I s'.snd],3,true⟩:Box),⟨40,.lst [SV.raw v0,SV.raw v1,SV.raw v2,SV.raw v3,SV.raw v4,SV.raw v5,SV.raw v6,SV.raw v7,SV.raw v8,SV.raw v9,SV.raw v10,SV.slc 3 0 m m,SV.raw v12,SV.raw v13,SV.raw v14,SV.raw v15,SV.raw v16,SV.raw v17,SV.raw v18,SV.raw v19,SV.raw v20,SV.raw v21,SV.raw v22,SV.raw v23,SV.raw v24,SV.raw v25,SV.raw v26,SV.raw v27,SV.raw v28,SV.raw v29],30,true⟩,⟨129,.lst [SV.ifc 79 (SV.loc 0 0)],1,true⟩,⟨95,.vals (List.map (Value.int IntKind.i64) (layI ys_1 (0+Int.toNat (NI i)*4) x)),tot,true⟩],E:=E':St }) else Q (SV.tup []) [⟨81,.lst [L b l c,I s0.fst,I s0.snd],3,true⟩,⟨40,.lst [SV.raw v0,SV.raw v1,SV.raw v2,SV.raw v3,SV.raw v4,SV.raw v5,SV.raw v6,SV.raw v7,SV.raw v8,SV.raw v9,SV.raw v10,SV.slc 3 0 m m,SV.raw v12,SV.raw v13,SV.raw v14,SV.raw v15,SV.raw v16,SV.raw v17,SV.raw v18,SV.raw v19,SV.raw v20,SV.raw v21,SV.raw v22,SV.raw v23,SV.raw v24,SV.raw v25,SV.raw v26,SV.raw v27,SV.raw v28,SV.raw v29],30,true⟩,⟨129,.lst [SV.ifc 79 (SV.loc 0 0)],1,true⟩,⟨95,.vals (List.map (Value.int IntKind.i64) ys),tot,true⟩] E)
 delta WI NI no2 no8 no32
 refine condC (fun g=>?_) (fun g=>?_)
 ·have g:i<m:=by simpa using g
  have w:IntKind.wrap .i64 ((i:Int)+1)=((i+1:Nat):Int):=by rw [wrap_i64 (by omega)];omega
  rw [w]
  refine req_intro (by omega) ⟨⟨rfl,rfl,rfl⟩,zs,⟨⟨rfl,rfl,alike rfl⟩,hB,hl,ha⟩,ys,⟨rfl,by rw [Int.toNat_natCast];omega,by decide,by decide⟩,trivial,fun x s' E' hE hq hs=>?_⟩
  rw [show 0+Int.toNat (i:Int)*4=i*4 by rw [Int.toNat_natCast];omega]
  exact Lp_re [some 0,some 1,some 2,some 3] (ih g x s' E' hE hq.eq hs) (wkH mr_)
 ·have g:i=m:=by simp at g;omega
  exact hQ _ _ _ (cloK_intro [some 0,some 1,some 2,some 3] (h g) (wkH mr_))
theorem rl84_11 (hB:Bs E b l c zs) (hl:l<=100000) (ha:0<=s0.1/\s0.1<=l) (hh:0<=hi/\hi<=60)
    (h:∀ (xs:List (List Int)) (s':Int×Int) (tot:Nat) (E':Mem),Mem.le E E'->RdL 85 hi zs s0 xs s'->0<=s'.1/\s'.1<=l->(∀ x∈xs,x.length=4)->KK (.tup []) [rBox b l c s',⟨40,.lst [.raw v0,.raw v1,.raw v2,.raw v3,.raw v4,.raw v5,.raw v6,.raw v7,.raw v8,.raw v9,.raw v10,.slc 3 0 xs.length xs.length,.raw v12,.raw v13,.raw v14,.raw v15,.raw v16,.raw v17,.raw v18,.raw v19,.raw v20,.raw v21,.raw v22,.raw v23,.raw v24,.raw v25,.raw v26,.raw v27,.raw v28,.raw v29],30,true⟩,⟨129,.lst [.ifc 79 (.loc 0 0)],1,true⟩,⟨95,.vals ((xs.flatten).map (.int .i64)),tot,true⟩] E') (hQ:∀ s bx' E',cloK 3 KK s bx' E'->Q s bx' E'):
    EntB Z2 6 Try.f84 [.ifc 79 (.loc 0 0),.loc 1 11,I hi,.clo 85 [] [.loc 2 0]] [rBox b l c s0,⟨40,.lst [.raw v0,.raw v1,.raw v2,.raw v3,.raw v4,.raw v5,.raw v6,.raw v7,.raw v8,.raw v9,.raw v10,L none 0 0,.raw v12,.raw v13,.raw v14,.raw v15,.raw v16,.raw v17,.raw v18,.raw v19,.raw v20,.raw v21,.raw v22,.raw v23,.raw v24,.raw v25,.raw v26,.raw v27,.raw v28,.raw v29],30,true⟩,⟨129,.lst [.ifc 79 (.loc 0 0)],1,true⟩] E Q:=by
  refine sm_ (?_:∃ (zs:List Int),((81=81/\3=3/\Sx.Alike al2 (IntKind.i64=IntKind.i64))/\Bs E b l c zs/\l<=100000/\0<=s0.fst/\s0.fst<=(NI l))/\IntKind.i64=IntKind.i64/\(0=3->False)/\∀ (v:Int) (s':Int×Int) (E':Mem),Mem.le E E'->Hyp (rnum zs (s0.fst,s0.snd) 0 hi=(v,s'))->0<=s'.fst/\s'.fst<=(NI l)->bif decide (v<(0:Int)) then Q (SV.tup []) [⟨81,.lst [L b l c,I s'.fst,I s'.snd],3,true⟩,⟨40,.lst [SV.raw v0,SV.raw v1,SV.raw v2,SV.raw v3,SV.raw v4,SV.raw v5,SV.raw v6,SV.raw v7,SV.raw v8,SV.raw v9,SV.raw v10,L none 0 0,SV.raw v12,SV.raw v13,SV.raw v14,SV.raw v15,SV.raw v16,SV.raw v17,SV.raw v18,SV.raw v19,SV.raw v20,SV.raw v21,SV.raw v22,SV.raw v23,SV.raw v24,SV.raw v25,SV.raw v26,SV.raw v27,SV.raw v28,SV.raw v29],30,true⟩,⟨129,.lst [SV.ifc 79 (SV.loc 0 0)],1,true⟩,⟨3,.lst [I v],1,true⟩] E' else bif bif false then true else decide (v>hi) then Q (SV.tup []) [⟨81,.lst [L b l c,I s'.fst,I s'.snd],3,true⟩,⟨40,.lst [SV.raw v0,SV.raw v1,SV.raw v2,SV.raw v3,SV.raw v4,SV.raw v5,SV.raw v6,SV.raw v7,SV.raw v8,SV.raw v9,SV.raw v10,L none 0 0,SV.raw v12,SV.raw v13,SV.raw v14,SV.raw v15,SV.raw v16,SV.raw v17,SV.raw v18,SV.raw v19,SV.raw v20,SV.raw v21,SV.raw v22,SV.raw v23,SV.raw v24,SV.raw v25,SV.raw v26,SV.raw v27,SV.raw v28,SV.raw v29],30,true⟩,⟨129,.lst [SV.ifc 79 (SV.loc 0 0)],1,true⟩,⟨3,.lst [I v],1,true⟩] E' else Sx.Alike al2 (bif (0:Int) !=v then req ((0:Int)<=v/\v<=v) (req (v*(32:Int)<=(140737488355328:Int)) (Lp Z2 6 Try.f84 [1,1,1,1,1,0] 3 Q { fr:=some (SV.ifc 79 (SV.loc 0 0))::oc 1 11::oI hi::some (SV.clo 85 [] [SV.loc 2 0])::none::none::none::none::oc 3 0::none::oc 1 11::oc 1 11::oL none 0 0::oI 0::some (SV.ifc 79 (SV.loc 0 0))::oI hi::some (SV.tup [])::oI v::oB (decide (v<(0:Int)))::oB false::oI v::oI hi::oB (decide (v>hi))::oB (bif false then true else decide (v>hi))::oc 1 11::oc 1 11::oL none 0 0::oI 0::oI v::oB ((0:Int) !=v)::oc 1 11::oI v::os 4 0 (Int.toNat v) (Int.toNat v)::oc 1 11::oc 1 11::oc 1 11::os 4 0 (Int.toNat v) (Int.toNat v)::oI (NI (Int.toNat v))::oI 0::no8 (no2 []),bx:=[(⟨81,.lst [L b l c,I s'.fst,I s'.snd],3,true⟩:Box),⟨40,.lst [SV.raw v0,SV.raw v1,SV.raw v2,SV.raw v3,SV.raw v4,SV.raw v5,SV.raw v6,SV.raw v7,SV.raw v8,SV.raw v9,SV.raw v10,SV.slc 4 0 (Int.toNat v) (Int.toNat v),SV.raw v12,SV.raw v13,SV.raw v14,SV.raw v15,SV.raw v16,SV.raw v17,SV.raw v18,SV.raw v19,SV.raw v20,SV.raw v21,SV.raw v22,SV.raw v23,SV.raw v24,SV.raw v25,SV.raw v26,SV.raw v27,SV.raw v28,SV.raw v29],30,true⟩,⟨129,.lst [SV.ifc 79 (SV.loc 0 0)],1,true⟩,⟨3,.lst [I v],1,true⟩,⟨95,.vals (zerosV [Value.int IntKind.i64 0,Value.int IntKind.i64 0,Value.int IntKind.i64 0,Value.int IntKind.i64 0] (Int.toNat v)),Int.toNat v*4,true⟩],E:=E':St })) else Lp Z2 6 Try.f84 [1,1,1,1,1,0] 3 Q { fr:=some (SV.ifc 79 (SV.loc 0 0))::oc 1 11::oI hi::some (SV.clo 85 [] [SV.loc 2 0])::none::none::none::none::oc 3 0::none::oc 1 11::oc 1 11::oL none 0 0::oI 0::some (SV.ifc 79 (SV.loc 0 0))::oI hi::some (SV.tup [])::oI v::oB (decide (v<(0:Int)))::oB false::oI v::oI hi::oB (decide (v>hi))::oB (bif false then true else decide (v>hi))::oc 1 11::oc 1 11::oL none 0 0::oI 0::oI v::oB ((0:Int) !=v)::none::none::none::none::oc 1 11::oc 1 11::oL none 0 0::oI 0::oI 0::no8 (no2 []),bx:=[(⟨81,.lst [L b l c,I s'.fst,I s'.snd],3,true⟩:Box),⟨40,.lst [SV.raw v0,SV.raw v1,SV.raw v2,SV.raw v3,SV.raw v4,SV.raw v5,SV.raw v6,SV.raw v7,SV.raw v8,SV.raw v9,SV.raw v10,L none 0 0,SV.raw v12,SV.raw v13,SV.raw v14,SV.raw v15,SV.raw v16,SV.raw v17,SV.raw v18,SV.raw v19,SV.raw v20,SV.raw v21,SV.raw v22,SV.raw v23,SV.raw v24,SV.raw v25,SV.raw v26,SV.raw v27,SV.raw v28,SV.raw v29],30,true⟩,⟨129,.lst [SV.ifc 79 (SV.loc 0 0)],1,true⟩,⟨3,.lst [I v],1,true⟩],E:=E':St }))
  delta NI no2 no8
  refine ⟨zs,⟨⟨rfl,rfl,alike rfl⟩,hB,hl,ha⟩,rfl,by decide,fun v s1 E1 e1 q1 w1=>?_⟩
  have q1:rnum zs s0 0 hi=(v,s1):=q1
  have r1:=rnum_range q1 hh.1
  have key:∀ tot:Nat,Lp Z2 6 Try.f84 [1,1,1,1,1,0] 3 Q (shL84_11 b l c s1 v0 v1 v2 v3 v4 v5 v6 v7 v8 v9 v10 v12 v13 v14 v15 v16 v17 v18 v19 v20 v21 v22 v23 v24 v25 v26 v27 v28 v29 hi v.toNat 0 tot (List.replicate (v.toNat*4) 0) E1):=by
    intro tot
    have:=Lp_ind okZ2 (n:=6) (fn:=Try.f84) (p:=[1,1,1,1,1,0]) (n0:=3) (K:=Q) (fun z:{z:Nat×List (List Int)×(Int×Int)×Mem//z.1<=v.toNat/\rRs 85 zs z.1 s1=(z.2.1,z.2.2.1)/\z.2.1.length=z.1/\(∀ x∈z.2.1,x.length=4)/\Mem.le E1 z.2.2.2/\(0<=z.2.2.1.1/\z.2.2.1.1<=l)}=>shL84_11 b l c z.1.2.2.1 v0 v1 v2 v3 v4 v5 v6 v7 v8 v9 v10 v12 v13 v14 v15 v16 v17 v18 v19 v20 v21 v22 v23 v24 v25 v26 v27 v28 v29 hi v.toNat z.1.1 tot (z.1.2.1.flatten++List.replicate ((v.toNat-z.1.1)*4) 0) z.1.2.2.2) (fun z=>v.toNat-z.1.1)
      (fun z ih=>by
        obtain ⟨⟨i,xs,s2,E2⟩,z1,z2,z3,z4,z5,z6⟩:=z
        have z1:i<=v.toNat:=z1
        have z3:xs.length=i:=z3
        have fl:=flat_len z4
        have fl:xs.flatten.length=xs.length*4:=fl
        have hd:(v.toNat-i)*4=(if i<v.toNat then 4 else 0)+(v.toNat-(i+1))*4:=by split<;>omega
        show Rnd Z2 6 Try.f84 [1,1,1,1,1,0] 3 Q (shL84_11 b l c s2 v0 v1 v2 v3 v4 v5 v6 v7 v8 v9 v10 v12 v13 v14 v15 v16 v17 v18 v19 v20 v21 v22 v23 v24 v25 v26 v27 v28 v29 hi v.toNat i tot (xs.flatten++List.replicate ((v.toNat-i)*4) 0) E2)
        refine rn84_11 (hB.mono (mt_ e1 z5)) hl z6 z1 (by omega) (by rw [List.length_append,List.length_replicate];omega) (fun e=>?_) hQ (fun g x s' E' hE hq hs=>?_)
        · have e:i=v.toNat:=e
          subst e
          have:=h xs s2 tot E2 (mt_ e1 z5) ⟨by unfold rLs;rw [q1];exact z2⟩ z6 z4
          rw [show (v.toNat-v.toNat)*4=0 by omega,show List.replicate 0 (0:Int)=[] from rfl,List.append_nil]
          rw [z3] at this
          exact this
        · have hx:=rEl85_len hq
          have:=ih ⟨⟨i+1,xs++[x],s',E'⟩,g,rRs_succ z2 hq,by show (xs++[x]).length=i+1;simp [z3],(fun y hy=>by rcases List.mem_append.1 hy with h1|h1;exact z4 y h1;rw [List.mem_singleton.1 h1];exact hx),mt_ z5 hE,hs⟩ (by show v.toNat-(i+1)<v.toNat-i;omega)
          rw [hd,if_pos g,show i*4=xs.flatten.length by omega,layI_next hx]
          have e2:(xs++[x]).flatten=xs.flatten++x:=by simp
          have this:Lp Z2 6 Try.f84 [1,1,1,1,1,0] 3 Q (shL84_11 b l c s' v0 v1 v2 v3 v4 v5 v6 v7 v8 v9 v10 v12 v13 v14 v15 v16 v17 v18 v19 v20 v21 v22 v23 v24 v25 v26 v27 v28 v29 hi v.toNat (i+1) tot ((xs++[x]).flatten++List.replicate ((v.toNat-(i+1))*4) 0) E'):=this
          rw [e2] at this
          exact this) ⟨⟨0,[],s1,E1⟩,Nat.zero_le _,rfl,rfl,(fun x hx=>by cases hx),mr_,w1⟩
    exact this
  refine condC (fun g=>absurd g (by simp;omega)) (fun _=>condC (fun g=>absurd g (by simp;omega)) (fun _=>alike (condC (fun g=>?_) (fun g=>?_))))
  · refine req_intro (by omega) (req_intro (by omega) ?_)
    rw [zeros_int (q:=.i64) (k:=4) (z:=[.int .i64 0,.int .i64 0,.int .i64 0,.int .i64 0]) rfl]
    exact Lp_re [some 0,some 1,some 2,some 4] (key _) (wkH mr_)
  · have g : v = 0 := by have g:0=v:=by simpa using g
                         exact g.symm
    subst g
    exact Lp_re [some 0,some 1,some 2,none] (key 0) (wkH mr_)
theorem rEl88_len (h:rEl 88 zs s=(x,s')):x.length=5:=rI_len (its:=its88) h
def shL87_12 (b:Option Addr) (l c:Nat) (s0:Int×Int) (v0 v1 v2 v3 v4 v5 v6 v7 v8 v9 v10 v11 v13 v14 v15 v16 v17 v18 v19 v20 v21 v22 v23 v24 v25 v26 v27 v28 v29:Value) (hi:Int) (m i tot:Nat) (ys:List Int) (E:Mem):St:=⟨[some (.ifc 79 (.loc 0 0)),oc 1 12,oI hi,some (.clo 88 [] [.loc 2 0]),none,none,none,none,none,none,none,none,none,none,none,none,none,none,none,none,none,none,none,none,none,none,none,none,none,none,none,none,none,none,none,none,none,oI (m:Nat),oI (i:Nat)]++List.replicate 10 none,[rBox b l c s0,⟨40,.lst [.raw v0,.raw v1,.raw v2,.raw v3,.raw v4,.raw v5,.raw v6,.raw v7,.raw v8,.raw v9,.raw v10,.raw v11,.slc 3 0 m m,.raw v13,.raw v14,.raw v15,.raw v16,.raw v17,.raw v18,.raw v19,.raw v20,.raw v21,.raw v22,.raw v23,.raw v24,.raw v25,.raw v26,.raw v27,.raw v28,.raw v29],30,true⟩,⟨129,.lst [.ifc 79 (.loc 0 0)],1,true⟩,⟨97,.vals ((ys).map (.int .i64)),tot,true⟩],E⟩
theorem rn87_12 (hB:Bs E b l c zs) (hl:l<=100000) (ha:0<=s0.1/\s0.1<=l) (hi':i<=m) (hm:m<=60) (hy:ys.length=m*5)
  (h:i=m->KK (.tup []) [rBox b l c s0,⟨40,.lst [.raw v0,.raw v1,.raw v2,.raw v3,.raw v4,.raw v5,.raw v6,.raw v7,.raw v8,.raw v9,.raw v10,.raw v11,.slc 3 0 m m,.raw v13,.raw v14,.raw v15,.raw v16,.raw v17,.raw v18,.raw v19,.raw v20,.raw v21,.raw v22,.raw v23,.raw v24,.raw v25,.raw v26,.raw v27,.raw v28,.raw v29],30,true⟩,⟨129,.lst [.ifc 79 (.loc 0 0)],1,true⟩,⟨97,.vals ((ys).map (.int .i64)),tot,true⟩] E) (hQ:∀ s bx' E',cloK 3 KK s bx' E'->Q s bx' E')
  (ih:i<m->∀ (x:List Int) (s':Int×Int) (E':Mem),Mem.le E E'->rEl 88 zs s0=(x,s')->0<=s'.1/\s'.1<=l->Lp Z2 6 Try.f87 [1,1,1,1,1,0] 3 Q (shL87_12 b l c s' v0 v1 v2 v3 v4 v5 v6 v7 v8 v9 v10 v11 v13 v14 v15 v16 v17 v18 v19 v20 v21 v22 v23 v24 v25 v26 v27 v28 v29 hi m (i+1) tot (layI ys (i*5) x) E')):
  Rnd Z2 6 Try.f87 [1,1,1,1,1,0] 3 Q (shL87_12 b l c s0 v0 v1 v2 v3 v4 v5 v6 v7 v8 v9 v10 v11 v13 v14 v15 v16 v17 v18 v19 v20 v21 v22 v23 v24 v25 v26 v27 v28 v29 hi m i tot ys E):=by
 refine sm_ (?_:bif decide ((NI i)<(NI m)) then req (0<=(NI i)/\(NI i)<(NI m)) ((129=129/\79=79/\1=1)/\∃ (zs:List Int),((81=81/\3=3/\Sx.Alike al2 (IntKind.i64=IntKind.i64))/\Bs E b l c zs/\l<=100000/\0<=s0.fst/\s0.fst<=(NI l))/\∃ (ys_1:List Int),(List.map (Value.int IntKind.i64) ys=List.map (Value.int IntKind.i64) ys_1/\0+Int.toNat (NI i)*5+5<=List.length ys_1/\(97=81->False)/\(97=129->False))/\True/\∀ (x:List Int) (s':Int×Int) (E':Mem),Mem.le E E'->RdE 88 zs (s0.fst,s0.snd) x s'->0<=s'.fst/\s'.fst<=(NI l)->Lp Z2 6 Try.f87 [1,1,1,1,1,0] 3 Q { fr:=some (SV.ifc 79 (SV.loc 0 0))::oc 1 12::oI hi::some (SV.clo 88 [] [SV.loc 2 0])::no32 (none::(oI (NI m)::oI (WI ((NI i)+1))::no8 (no2 []))),bx:=[(⟨81,.lst [L b l c,I s'.fst,I s'.snd],3,true⟩:Box),⟨40,.lst [SV.raw v0,SV.raw v1,SV.raw v2,SV.raw v3,SV.raw v4,SV.raw v5,SV.raw v6,SV.raw v7,SV.raw v8,SV.raw v9,SV.raw v10,SV.raw v11,SV.slc 3 0 m m,SV.raw v13,SV.raw v14,SV.raw v15,SV.raw v16,SV.raw v17,SV.raw v18,SV.raw v19,SV.raw v20,SV.raw v21,SV.raw v22,SV.raw v23,SV.raw v24,SV.raw v25,SV.raw v26,SV.raw v27,SV.raw v28,SV.raw v29],30,true⟩,⟨129,.lst [SV.ifc 79 (SV.loc 0 0)],1,true⟩,⟨97,.vals (List.map (Value.int IntKind.i64) (layI ys_1 (0+Int.toNat (NI i)*5) x)),tot,true⟩],E:=E':St }) else Q (SV.tup []) [⟨81,.lst [L b l c,I s0.fst,I s0.snd],3,true⟩,⟨40,.lst [SV.raw v0,SV.raw v1,SV.raw v2,SV.raw v3,SV.raw v4,SV.raw v5,SV.raw v6,SV.raw v7,SV.raw v8,SV.raw v9,SV.raw v10,SV.raw v11,SV.slc 3 0 m m,SV.raw v13,SV.raw v14,SV.raw v15,SV.raw v16,SV.raw v17,SV.raw v18,SV.raw v19,SV.raw v20,SV.raw v21,SV.raw v22,SV.raw v23,SV.raw v24,SV.raw v25,SV.raw v26,SV.raw v27,SV.raw v28,SV.raw v29],30,true⟩,⟨129,.lst [SV.ifc 79 (SV.loc 0 0)],1,true⟩,⟨97,.vals (List.map (Value.int IntKind.i64) ys),tot,true⟩] E)
 delta WI NI no2 no8 no32
 refine condC (fun g=>?_) (fun g=>?_)
 ·have g:i<m:=by simpa using g
  have w:IntKind.wrap .i64 ((i:Int)+1)=((i+1:Nat):Int):=by rw [wrap_i64 (by omega)];omega
  rw [w]
  refine req_intro (by omega) ⟨⟨rfl,rfl,rfl⟩,zs,⟨⟨rfl,rfl,alike rfl⟩,hB,hl,ha⟩,ys,⟨rfl,by rw [Int.toNat_natCast];omega,by decide,by decide⟩,trivial,fun x s' E' hE hq hs=>?_⟩
  rw [show 0+Int.toNat (i:Int)*5=i*5 by rw [Int.toNat_natCast];omega]
  exact Lp_re [some 0,some 1,some 2,some 3] (ih g x s' E' hE hq.eq hs) (wkH mr_)
 ·have g:i=m:=by simp at g;omega
  exact hQ _ _ _ (cloK_intro [some 0,some 1,some 2,some 3] (h g) (wkH mr_))
theorem rl87_12 (hB:Bs E b l c zs) (hl:l<=100000) (ha:0<=s0.1/\s0.1<=l) (hh:0<=hi/\hi<=60)
    (h:∀ (xs:List (List Int)) (s':Int×Int) (tot:Nat) (E':Mem),Mem.le E E'->RdL 88 hi zs s0 xs s'->0<=s'.1/\s'.1<=l->(∀ x∈xs,x.length=5)->KK (.tup []) [rBox b l c s',⟨40,.lst [.raw v0,.raw v1,.raw v2,.raw v3,.raw v4,.raw v5,.raw v6,.raw v7,.raw v8,.raw v9,.raw v10,.raw v11,.slc 3 0 xs.length xs.length,.raw v13,.raw v14,.raw v15,.raw v16,.raw v17,.raw v18,.raw v19,.raw v20,.raw v21,.raw v22,.raw v23,.raw v24,.raw v25,.raw v26,.raw v27,.raw v28,.raw v29],30,true⟩,⟨129,.lst [.ifc 79 (.loc 0 0)],1,true⟩,⟨97,.vals ((xs.flatten).map (.int .i64)),tot,true⟩] E') (hQ:∀ s bx' E',cloK 3 KK s bx' E'->Q s bx' E'):
    EntB Z2 6 Try.f87 [.ifc 79 (.loc 0 0),.loc 1 12,I hi,.clo 88 [] [.loc 2 0]] [rBox b l c s0,⟨40,.lst [.raw v0,.raw v1,.raw v2,.raw v3,.raw v4,.raw v5,.raw v6,.raw v7,.raw v8,.raw v9,.raw v10,.raw v11,L none 0 0,.raw v13,.raw v14,.raw v15,.raw v16,.raw v17,.raw v18,.raw v19,.raw v20,.raw v21,.raw v22,.raw v23,.raw v24,.raw v25,.raw v26,.raw v27,.raw v28,.raw v29],30,true⟩,⟨129,.lst [.ifc 79 (.loc 0 0)],1,true⟩] E Q:=by
  refine sm_ (?_:∃ (zs:List Int),((81=81/\3=3/\Sx.Alike al2 (IntKind.i64=IntKind.i64))/\Bs E b l c zs/\l<=100000/\0<=s0.fst/\s0.fst<=(NI l))/\IntKind.i64=IntKind.i64/\(0=3->False)/\∀ (v:Int) (s':Int×Int) (E':Mem),Mem.le E E'->Hyp (rnum zs (s0.fst,s0.snd) 0 hi=(v,s'))->0<=s'.fst/\s'.fst<=(NI l)->bif decide (v<(0:Int)) then Q (SV.tup []) [⟨81,.lst [L b l c,I s'.fst,I s'.snd],3,true⟩,⟨40,.lst [SV.raw v0,SV.raw v1,SV.raw v2,SV.raw v3,SV.raw v4,SV.raw v5,SV.raw v6,SV.raw v7,SV.raw v8,SV.raw v9,SV.raw v10,SV.raw v11,L none 0 0,SV.raw v13,SV.raw v14,SV.raw v15,SV.raw v16,SV.raw v17,SV.raw v18,SV.raw v19,SV.raw v20,SV.raw v21,SV.raw v22,SV.raw v23,SV.raw v24,SV.raw v25,SV.raw v26,SV.raw v27,SV.raw v28,SV.raw v29],30,true⟩,⟨129,.lst [SV.ifc 79 (SV.loc 0 0)],1,true⟩,⟨3,.lst [I v],1,true⟩] E' else bif bif false then true else decide (v>hi) then Q (SV.tup []) [⟨81,.lst [L b l c,I s'.fst,I s'.snd],3,true⟩,⟨40,.lst [SV.raw v0,SV.raw v1,SV.raw v2,SV.raw v3,SV.raw v4,SV.raw v5,SV.raw v6,SV.raw v7,SV.raw v8,SV.raw v9,SV.raw v10,SV.raw v11,L none 0 0,SV.raw v13,SV.raw v14,SV.raw v15,SV.raw v16,SV.raw v17,SV.raw v18,SV.raw v19,SV.raw v20,SV.raw v21,SV.raw v22,SV.raw v23,SV.raw v24,SV.raw v25,SV.raw v26,SV.raw v27,SV.raw v28,SV.raw v29],30,true⟩,⟨129,.lst [SV.ifc 79 (SV.loc 0 0)],1,true⟩,⟨3,.lst [I v],1,true⟩] E' else Sx.Alike al2 (bif (0:Int) !=v then req ((0:Int)<=v/\v<=v) (req (v*(40:Int)<=(140737488355328:Int)) (Lp Z2 6 Try.f87 [1,1,1,1,1,0] 3 Q { fr:=some (SV.ifc 79 (SV.loc 0 0))::oc 1 12::oI hi::some (SV.clo 88 [] [SV.loc 2 0])::none::none::none::none::oc 3 0::none::oc 1 12::oc 1 12::oL none 0 0::oI 0::some (SV.ifc 79 (SV.loc 0 0))::oI hi::some (SV.tup [])::oI v::oB (decide (v<(0:Int)))::oB false::oI v::oI hi::oB (decide (v>hi))::oB (bif false then true else decide (v>hi))::oc 1 12::oc 1 12::oL none 0 0::oI 0::oI v::oB ((0:Int) !=v)::oc 1 12::oI v::os 4 0 (Int.toNat v) (Int.toNat v)::oc 1 12::oc 1 12::oc 1 12::os 4 0 (Int.toNat v) (Int.toNat v)::oI (NI (Int.toNat v))::oI 0::no8 (no2 []),bx:=[(⟨81,.lst [L b l c,I s'.fst,I s'.snd],3,true⟩:Box),⟨40,.lst [SV.raw v0,SV.raw v1,SV.raw v2,SV.raw v3,SV.raw v4,SV.raw v5,SV.raw v6,SV.raw v7,SV.raw v8,SV.raw v9,SV.raw v10,SV.raw v11,SV.slc 4 0 (Int.toNat v) (Int.toNat v),SV.raw v13,SV.raw v14,SV.raw v15,SV.raw v16,SV.raw v17,SV.raw v18,SV.raw v19,SV.raw v20,SV.raw v21,SV.raw v22,SV.raw v23,SV.raw v24,SV.raw v25,SV.raw v26,SV.raw v27,SV.raw v28,SV.raw v29],30,true⟩,⟨129,.lst [SV.ifc 79 (SV.loc 0 0)],1,true⟩,⟨3,.lst [I v],1,true⟩,⟨97,.vals (zerosV [Value.int IntKind.i64 0,Value.int IntKind.i64 0,Value.int IntKind.i64 0,Value.int IntKind.i64 0,Value.int IntKind.i64 0] (Int.toNat v)),Int.toNat v*5,true⟩],E:=E':St })) else Lp Z2 6 Try.f87 [1,1,1,1,1,0] 3 Q { fr:=some (SV.ifc 79 (SV.loc 0 0))::oc 1 12::oI hi::some (SV.clo 88 [] [SV.loc 2 0])::none::none::none::none::oc 3 0::none::oc 1 12::oc 1 12::oL none 0 0::oI 0::some (SV.ifc 79 (SV.loc 0 0))::oI hi::some (SV.tup [])::oI v::oB (decide (v<(0:Int)))::oB false::oI v::oI hi::oB (decide (v>hi))::oB (bif false then true else decide (v>hi))::oc 1 12::oc 1 12::oL none 0 0::oI 0::oI v::oB ((0:Int) !=v)::none::none::none::none::oc 1 12::oc 1 12::oL none 0 0::oI 0::oI 0::no8 (no2 []),bx:=[(⟨81,.lst [L b l c,I s'.fst,I s'.snd],3,true⟩:Box),⟨40,.lst [SV.raw v0,SV.raw v1,SV.raw v2,SV.raw v3,SV.raw v4,SV.raw v5,SV.raw v6,SV.raw v7,SV.raw v8,SV.raw v9,SV.raw v10,SV.raw v11,L none 0 0,SV.raw v13,SV.raw v14,SV.raw v15,SV.raw v16,SV.raw v17,SV.raw v18,SV.raw v19,SV.raw v20,SV.raw v21,SV.raw v22,SV.raw v23,SV.raw v24,SV.raw v25,SV.raw v26,SV.raw v27,SV.raw v28,SV.raw v29],30,true⟩,⟨129,.lst [SV.ifc 79 (SV.loc 0 0)],1,true⟩,⟨3,.lst [I v],1,true⟩],E:=E':St }))
  delta NI no2 no8
  refine ⟨zs,⟨⟨rfl,rfl,alike rfl⟩,hB,hl,ha⟩,rfl,by decide,fun v s1 E1 e1 q1 w1=>?_⟩
  have q1:rnum zs s0 0 hi=(v,s1):=q1
  have r1:=rnum_range q1 hh.1
  have key:∀ tot:Nat,Lp Z2 6 Try.f87 [1,1,1,1,1,0] 3 Q (shL87_12 b l c s1 v0 v1 v2 v3 v4 v5 v6 v7 v8 v9 v10 v11 v13 v14 v15 v16 v17 v18 v19 v20 v21 v22 v23 v24 v25 v26 v27 v28 v29 hi v.toNat 0 tot (List.replicate (v.toNat*5) 0) E1):=by
    intro tot
    have:=Lp_ind okZ2 (n:=6) (fn:=Try.f87) (p:=[1,1,1,1,1,0]) (n0:=3) (K:=Q) (fun z:{z:Nat×List (List Int)×(Int×Int)×Mem//z.1<=v.toNat/\rRs 88 zs z.1 s1=(z.2.1,z.2.2.1)/\z.2.1.length=z.1/\(∀ x∈z.2.1,x.length=5)/\Mem.le E1 z.2.2.2/\(0<=z.2.2.1.1/\z.2.2.1.1<=l)}=>shL87_12 b l c z.1.2.2.1 v0 v1 v2 v3 v4 v5 v6 v7 v8 v9 v10 v11 v13 v14 v15 v16 v17 v18 v19 v20 v21 v22 v23 v24 v25 v26 v27 v28 v29 hi v.toNat z.1.1 tot (z.1.2.1.flatten++List.replicate ((v.toNat-z.1.1)*5) 0) z.1.2.2.2) (fun z=>v.toNat-z.1.1)
      (fun z ih=>by
        obtain ⟨⟨i,xs,s2,E2⟩,z1,z2,z3,z4,z5,z6⟩:=z
        have z1:i<=v.toNat:=z1
        have z3:xs.length=i:=z3
        have fl:=flat_len z4
        have fl:xs.flatten.length=xs.length*5:=fl
        have hd:(v.toNat-i)*5=(if i<v.toNat then 5 else 0)+(v.toNat-(i+1))*5:=by split<;>omega
        show Rnd Z2 6 Try.f87 [1,1,1,1,1,0] 3 Q (shL87_12 b l c s2 v0 v1 v2 v3 v4 v5 v6 v7 v8 v9 v10 v11 v13 v14 v15 v16 v17 v18 v19 v20 v21 v22 v23 v24 v25 v26 v27 v28 v29 hi v.toNat i tot (xs.flatten++List.replicate ((v.toNat-i)*5) 0) E2)
        refine rn87_12 (hB.mono (mt_ e1 z5)) hl z6 z1 (by omega) (by rw [List.length_append,List.length_replicate];omega) (fun e=>?_) hQ (fun g x s' E' hE hq hs=>?_)
        · have e:i=v.toNat:=e
          subst e
          have:=h xs s2 tot E2 (mt_ e1 z5) ⟨by unfold rLs;rw [q1];exact z2⟩ z6 z4
          rw [show (v.toNat-v.toNat)*5=0 by omega,show List.replicate 0 (0:Int)=[] from rfl,List.append_nil]
          rw [z3] at this
          exact this
        · have hx:=rEl88_len hq
          have:=ih ⟨⟨i+1,xs++[x],s',E'⟩,g,rRs_succ z2 hq,by show (xs++[x]).length=i+1;simp [z3],(fun y hy=>by rcases List.mem_append.1 hy with h1|h1;exact z4 y h1;rw [List.mem_singleton.1 h1];exact hx),mt_ z5 hE,hs⟩ (by show v.toNat-(i+1)<v.toNat-i;omega)
          rw [hd,if_pos g,show i*5=xs.flatten.length by omega,layI_next hx]
          have e2:(xs++[x]).flatten=xs.flatten++x:=by simp
          have this:Lp Z2 6 Try.f87 [1,1,1,1,1,0] 3 Q (shL87_12 b l c s' v0 v1 v2 v3 v4 v5 v6 v7 v8 v9 v10 v11 v13 v14 v15 v16 v17 v18 v19 v20 v21 v22 v23 v24 v25 v26 v27 v28 v29 hi v.toNat (i+1) tot ((xs++[x]).flatten++List.replicate ((v.toNat-(i+1))*5) 0) E'):=this
          rw [e2] at this
          exact this) ⟨⟨0,[],s1,E1⟩,Nat.zero_le _,rfl,rfl,(fun x hx=>by cases hx),mr_,w1⟩
    exact this
  refine condC (fun g=>absurd g (by simp;omega)) (fun _=>condC (fun g=>absurd g (by simp;omega)) (fun _=>alike (condC (fun g=>?_) (fun g=>?_))))
  · refine req_intro (by omega) (req_intro (by omega) ?_)
    rw [zeros_int (q:=.i64) (k:=5) (z:=[.int .i64 0,.int .i64 0,.int .i64 0,.int .i64 0,.int .i64 0]) rfl]
    exact Lp_re [some 0,some 1,some 2,some 4] (key _) (wkH mr_)
  · have g : v = 0 := by have g:0=v:=by simpa using g
                         exact g.symm
    subst g
    exact Lp_re [some 0,some 1,some 2,none] (key 0) (wkH mr_)
theorem rEl90_len (h:rEl 90 zs s=(x,s')):x.length=3:=rI_len (its:=its90) h
def shL89_13 (b:Option Addr) (l c:Nat) (s0:Int×Int) (v0 v1 v2 v3 v4 v5 v6 v7 v8 v9 v10 v11 v12 v14 v15 v16 v17 v18 v19 v20 v21 v22 v23 v24 v25 v26 v27 v28 v29:Value) (hi:Int) (m i tot:Nat) (ys:List Int) (E:Mem):St:=⟨[some (.ifc 79 (.loc 0 0)),oc 1 13,oI hi,some (.clo 90 [] [.loc 2 0]),none,none,none,none,none,none,none,none,none,none,none,none,none,none,none,none,none,none,none,none,none,none,none,none,none,none,none,none,none,none,none,none,none,oI (m:Nat),oI (i:Nat)]++List.replicate 10 none,[rBox b l c s0,⟨40,.lst [.raw v0,.raw v1,.raw v2,.raw v3,.raw v4,.raw v5,.raw v6,.raw v7,.raw v8,.raw v9,.raw v10,.raw v11,.raw v12,.slc 3 0 m m,.raw v14,.raw v15,.raw v16,.raw v17,.raw v18,.raw v19,.raw v20,.raw v21,.raw v22,.raw v23,.raw v24,.raw v25,.raw v26,.raw v27,.raw v28,.raw v29],30,true⟩,⟨129,.lst [.ifc 79 (.loc 0 0)],1,true⟩,⟨99,.vals ((ys).map (.int .i64)),tot,true⟩],E⟩
theorem rn89_13 (hB:Bs E b l c zs) (hl:l<=100000) (ha:0<=s0.1/\s0.1<=l) (hi':i<=m) (hm:m<=60) (hy:ys.length=m*3)
  (h:i=m->KK (.tup []) [rBox b l c s0,⟨40,.lst [.raw v0,.raw v1,.raw v2,.raw v3,.raw v4,.raw v5,.raw v6,.raw v7,.raw v8,.raw v9,.raw v10,.raw v11,.raw v12,.slc 3 0 m m,.raw v14,.raw v15,.raw v16,.raw v17,.raw v18,.raw v19,.raw v20,.raw v21,.raw v22,.raw v23,.raw v24,.raw v25,.raw v26,.raw v27,.raw v28,.raw v29],30,true⟩,⟨129,.lst [.ifc 79 (.loc 0 0)],1,true⟩,⟨99,.vals ((ys).map (.int .i64)),tot,true⟩] E) (hQ:∀ s bx' E',cloK 3 KK s bx' E'->Q s bx' E')
  (ih:i<m->∀ (x:List Int) (s':Int×Int) (E':Mem),Mem.le E E'->rEl 90 zs s0=(x,s')->0<=s'.1/\s'.1<=l->Lp Z2 6 Try.f89 [1,1,1,1,1,0] 3 Q (shL89_13 b l c s' v0 v1 v2 v3 v4 v5 v6 v7 v8 v9 v10 v11 v12 v14 v15 v16 v17 v18 v19 v20 v21 v22 v23 v24 v25 v26 v27 v28 v29 hi m (i+1) tot (layI ys (i*3) x) E')):
  Rnd Z2 6 Try.f89 [1,1,1,1,1,0] 3 Q (shL89_13 b l c s0 v0 v1 v2 v3 v4 v5 v6 v7 v8 v9 v10 v11 v12 v14 v15 v16 v17 v18 v19 v20 v21 v22 v23 v24 v25 v26 v27 v28 v29 hi m i tot ys E):=by
 refine sm_ (?_:bif decide ((NI i)<(NI m)) then req (0<=(NI i)/\(NI i)<(NI m)) ((129=129/\79=79/\1=1)/\∃ (zs:List Int),((81=81/\3=3/\Sx.Alike al2 (IntKind.i64=IntKind.i64))/\Bs E b l c zs/\l<=100000/\0<=s0.fst/\s0.fst<=(NI l))/\∃ (ys_1:List Int),(List.map (Value.int IntKind.i64) ys=List.map (Value.int IntKind.i64) ys_1/\0+Int.toNat (NI i)*3+3<=List.length ys_1/\(99=81->False)/\(99=129->False))/\True/\∀ (x:List Int) (s':Int×Int) (E':Mem),Mem.le E E'->RdE 90 zs (s0.fst,s0.snd) x s'->0<=s'.fst/\s'.fst<=(NI l)->Lp Z2 6 Try.f89 [1,1,1,1,1,0] 3 Q { fr:=some (SV.ifc 79 (SV.loc 0 0))::oc 1 13::oI hi::some (SV.clo 90 [] [SV.loc 2 0])::no32 (none::(oI (NI m)::oI (WI ((NI i)+1))::no8 (no2 []))),bx:=[(⟨81,.lst [L b l c,I s'.fst,I s'.snd],3,true⟩:Box),⟨40,.lst [SV.raw v0,SV.raw v1,SV.raw v2,SV.raw v3,SV.raw v4,SV.raw v5,SV.raw v6,SV.raw v7,SV.raw v8,SV.raw v9,SV.raw v10,SV.raw v11,SV.raw v12,SV.slc 3 0 m m,SV.raw v14,SV.raw v15,SV.raw v16,SV.raw v17,SV.raw v18,SV.raw v19,SV.raw v20,SV.raw v21,SV.raw v22,SV.raw v23,SV.raw v24,SV.raw v25,SV.raw v26,SV.raw v27,SV.raw v28,SV.raw v29],30,true⟩,⟨129,.lst [SV.ifc 79 (SV.loc 0 0)],1,true⟩,⟨99,.vals (List.map (Value.int IntKind.i64) (layI ys_1 (0+Int.toNat (NI i)*3) x)),tot,true⟩],E:=E':St }) else Q (SV.tup []) [⟨81,.lst [L b l c,I s0.fst,I s0.snd],3,true⟩,⟨40,.lst [SV.raw v0,SV.raw v1,SV.raw v2,SV.raw v3,SV.raw v4,SV.raw v5,SV.raw v6,SV.raw v7,SV.raw v8,SV.raw v9,SV.raw v10,SV.raw v11,SV.raw v12,SV.slc 3 0 m m,SV.raw v14,SV.raw v15,SV.raw v16,SV.raw v17,SV.raw v18,SV.raw v19,SV.raw v20,SV.raw v21,SV.raw v22,SV.raw v23,SV.raw v24,SV.raw v25,SV.raw v26,SV.raw v27,SV.raw v28,SV.raw v29],30,true⟩,⟨129,.lst [SV.ifc 79 (SV.loc 0 0)],1,true⟩,⟨99,.vals (List.map (Value.int IntKind.i64) ys),tot,true⟩] E)
 delta WI NI no2 no8 no32
 refine condC (fun g=>?_) (fun g=>?_)
 ·have g:i<m:=by simpa using g
  have w:IntKind.wrap .i64 ((i:Int)+1)=((i+1:Nat):Int):=by rw [wrap_i64 (by omega)];omega
  rw [w]
  refine req_intro (by omega) ⟨⟨rfl,rfl,rfl⟩,zs,⟨⟨rfl,rfl,alike rfl⟩,hB,hl,ha⟩,ys,⟨rfl,by rw [Int.toNat_natCast];omega,by decide,by decide⟩,trivial,fun x s' E' hE hq hs=>?_⟩
  rw [show 0+Int.toNat (i:Int)*3=i*3 by rw [Int.toNat_natCast];omega]
  exact Lp_re [some 0,some 1,some 2,some 3] (ih g x s' E' hE hq.eq hs) (wkH mr_)
 ·have g:i=m:=by simp at g;omega
  exact hQ _ _ _ (cloK_intro [some 0,some 1,some 2,some 3] (h g) (wkH mr_))
theorem rl89_13 (hB:Bs E b l c zs) (hl:l<=100000) (ha:0<=s0.1/\s0.1<=l) (hh:0<=hi/\hi<=60)
    (h:∀ (xs:List (List Int)) (s':Int×Int) (tot:Nat) (E':Mem),Mem.le E E'->RdL 90 hi zs s0 xs s'->0<=s'.1/\s'.1<=l->(∀ x∈xs,x.length=3)->KK (.tup []) [rBox b l c s',⟨40,.lst [.raw v0,.raw v1,.raw v2,.raw v3,.raw v4,.raw v5,.raw v6,.raw v7,.raw v8,.raw v9,.raw v10,.raw v11,.raw v12,.slc 3 0 xs.length xs.length,.raw v14,.raw v15,.raw v16,.raw v17,.raw v18,.raw v19,.raw v20,.raw v21,.raw v22,.raw v23,.raw v24,.raw v25,.raw v26,.raw v27,.raw v28,.raw v29],30,true⟩,⟨129,.lst [.ifc 79 (.loc 0 0)],1,true⟩,⟨99,.vals ((xs.flatten).map (.int .i64)),tot,true⟩] E') (hQ:∀ s bx' E',cloK 3 KK s bx' E'->Q s bx' E'):
    EntB Z2 6 Try.f89 [.ifc 79 (.loc 0 0),.loc 1 13,I hi,.clo 90 [] [.loc 2 0]] [rBox b l c s0,⟨40,.lst [.raw v0,.raw v1,.raw v2,.raw v3,.raw v4,.raw v5,.raw v6,.raw v7,.raw v8,.raw v9,.raw v10,.raw v11,.raw v12,L none 0 0,.raw v14,.raw v15,.raw v16,.raw v17,.raw v18,.raw v19,.raw v20,.raw v21,.raw v22,.raw v23,.raw v24,.raw v25,.raw v26,.raw v27,.raw v28,.raw v29],30,true⟩,⟨129,.lst [.ifc 79 (.loc 0 0)],1,true⟩] E Q:=by
  refine sm_ (?_:∃ (zs:List Int),((81=81/\3=3/\Sx.Alike al2 (IntKind.i64=IntKind.i64))/\Bs E b l c zs/\l<=100000/\0<=s0.fst/\s0.fst<=(NI l))/\IntKind.i64=IntKind.i64/\(0=3->False)/\∀ (v:Int) (s':Int×Int) (E':Mem),Mem.le E E'->Hyp (rnum zs (s0.fst,s0.snd) 0 hi=(v,s'))->0<=s'.fst/\s'.fst<=(NI l)->bif decide (v<(0:Int)) then Q (SV.tup []) [⟨81,.lst [L b l c,I s'.fst,I s'.snd],3,true⟩,⟨40,.lst [SV.raw v0,SV.raw v1,SV.raw v2,SV.raw v3,SV.raw v4,SV.raw v5,SV.raw v6,SV.raw v7,SV.raw v8,SV.raw v9,SV.raw v10,SV.raw v11,SV.raw v12,L none 0 0,SV.raw v14,SV.raw v15,SV.raw v16,SV.raw v17,SV.raw v18,SV.raw v19,SV.raw v20,SV.raw v21,SV.raw v22,SV.raw v23,SV.raw v24,SV.raw v25,SV.raw v26,SV.raw v27,SV.raw v28,SV.raw v29],30,true⟩,⟨129,.lst [SV.ifc 79 (SV.loc 0 0)],1,true⟩,⟨3,.lst [I v],1,true⟩] E' else bif bif false then true else decide (v>hi) then Q (SV.tup []) [⟨81,.lst [L b l c,I s'.fst,I s'.snd],3,true⟩,⟨40,.lst [SV.raw v0,SV.raw v1,SV.raw v2,SV.raw v3,SV.raw v4,SV.raw v5,SV.raw v6,SV.raw v7,SV.raw v8,SV.raw v9,SV.raw v10,SV.raw v11,SV.raw v12,L none 0 0,SV.raw v14,SV.raw v15,SV.raw v16,SV.raw v17,SV.raw v18,SV.raw v19,SV.raw v20,SV.raw v21,SV.raw v22,SV.raw v23,SV.raw v24,SV.raw v25,SV.raw v26,SV.raw v27,SV.raw v28,SV.raw v29],30,true⟩,⟨129,.lst [SV.ifc 79 (SV.loc 0 0)],1,true⟩,⟨3,.lst [I v],1,true⟩] E' else Sx.Alike al2 (bif (0:Int) !=v then req ((0:Int)<=v/\v<=v) (req (v*(24:Int)<=(140737488355328:Int)) (Lp Z2 6 Try.f89 [1,1,1,1,1,0] 3 Q { fr:=some (SV.ifc 79 (SV.loc 0 0))::oc 1 13::oI hi::some (SV.clo 90 [] [SV.loc 2 0])::none::none::none::none::oc 3 0::none::oc 1 13::oc 1 13::oL none 0 0::oI 0::some (SV.ifc 79 (SV.loc 0 0))::oI hi::some (SV.tup [])::oI v::oB (decide (v<(0:Int)))::oB false::oI v::oI hi::oB (decide (v>hi))::oB (bif false then true else decide (v>hi))::oc 1 13::oc 1 13::oL none 0 0::oI 0::oI v::oB ((0:Int) !=v)::oc 1 13::oI v::os 4 0 (Int.toNat v) (Int.toNat v)::oc 1 13::oc 1 13::oc 1 13::os 4 0 (Int.toNat v) (Int.toNat v)::oI (NI (Int.toNat v))::oI 0::no8 (no2 []),bx:=[(⟨81,.lst [L b l c,I s'.fst,I s'.snd],3,true⟩:Box),⟨40,.lst [SV.raw v0,SV.raw v1,SV.raw v2,SV.raw v3,SV.raw v4,SV.raw v5,SV.raw v6,SV.raw v7,SV.raw v8,SV.raw v9,SV.raw v10,SV.raw v11,SV.raw v12,SV.slc 4 0 (Int.toNat v) (Int.toNat v),SV.raw v14,SV.raw v15,SV.raw v16,SV.raw v17,SV.raw v18,SV.raw v19,SV.raw v20,SV.raw v21,SV.raw v22,SV.raw v23,SV.raw v24,SV.raw v25,SV.raw v26,SV.raw v27,SV.raw v28,SV.raw v29],30,true⟩,⟨129,.lst [SV.ifc 79 (SV.loc 0 0)],1,true⟩,⟨3,.lst [I v],1,true⟩,⟨99,.vals (zerosV [Value.int IntKind.i64 0,Value.int IntKind.i64 0,Value.int IntKind.i64 0] (Int.toNat v)),Int.toNat v*3,true⟩],E:=E':St })) else Lp Z2 6 Try.f89 [1,1,1,1,1,0] 3 Q { fr:=some (SV.ifc 79 (SV.loc 0 0))::oc 1 13::oI hi::some (SV.clo 90 [] [SV.loc 2 0])::none::none::none::none::oc 3 0::none::oc 1 13::oc 1 13::oL none 0 0::oI 0::some (SV.ifc 79 (SV.loc 0 0))::oI hi::some (SV.tup [])::oI v::oB (decide (v<(0:Int)))::oB false::oI v::oI hi::oB (decide (v>hi))::oB (bif false then true else decide (v>hi))::oc 1 13::oc 1 13::oL none 0 0::oI 0::oI v::oB ((0:Int) !=v)::none::none::none::none::oc 1 13::oc 1 13::oL none 0 0::oI 0::oI 0::no8 (no2 []),bx:=[(⟨81,.lst [L b l c,I s'.fst,I s'.snd],3,true⟩:Box),⟨40,.lst [SV.raw v0,SV.raw v1,SV.raw v2,SV.raw v3,SV.raw v4,SV.raw v5,SV.raw v6,SV.raw v7,SV.raw v8,SV.raw v9,SV.raw v10,SV.raw v11,SV.raw v12,L none 0 0,SV.raw v14,SV.raw v15,SV.raw v16,SV.raw v17,SV.raw v18,SV.raw v19,SV.raw v20,SV.raw v21,SV.raw v22,SV.raw v23,SV.raw v24,SV.raw v25,SV.raw v26,SV.raw v27,SV.raw v28,SV.raw v29],30,true⟩,⟨129,.lst [SV.ifc 79 (SV.loc 0 0)],1,true⟩,⟨3,.lst [I v],1,true⟩],E:=E':St }))
  delta NI no2 no8
  refine ⟨zs,⟨⟨rfl,rfl,alike rfl⟩,hB,hl,ha⟩,rfl,by decide,fun v s1 E1 e1 q1 w1=>?_⟩
  have q1:rnum zs s0 0 hi=(v,s1):=q1
  have r1:=rnum_range q1 hh.1
  have key:∀ tot:Nat,Lp Z2 6 Try.f89 [1,1,1,1,1,0] 3 Q (shL89_13 b l c s1 v0 v1 v2 v3 v4 v5 v6 v7 v8 v9 v10 v11 v12 v14 v15 v16 v17 v18 v19 v20 v21 v22 v23 v24 v25 v26 v27 v28 v29 hi v.toNat 0 tot (List.replicate (v.toNat*3) 0) E1):=by
    intro tot
    have:=Lp_ind okZ2 (n:=6) (fn:=Try.f89) (p:=[1,1,1,1,1,0]) (n0:=3) (K:=Q) (fun z:{z:Nat×List (List Int)×(Int×Int)×Mem//z.1<=v.toNat/\rRs 90 zs z.1 s1=(z.2.1,z.2.2.1)/\z.2.1.length=z.1/\(∀ x∈z.2.1,x.length=3)/\Mem.le E1 z.2.2.2/\(0<=z.2.2.1.1/\z.2.2.1.1<=l)}=>shL89_13 b l c z.1.2.2.1 v0 v1 v2 v3 v4 v5 v6 v7 v8 v9 v10 v11 v12 v14 v15 v16 v17 v18 v19 v20 v21 v22 v23 v24 v25 v26 v27 v28 v29 hi v.toNat z.1.1 tot (z.1.2.1.flatten++List.replicate ((v.toNat-z.1.1)*3) 0) z.1.2.2.2) (fun z=>v.toNat-z.1.1)
      (fun z ih=>by
        obtain ⟨⟨i,xs,s2,E2⟩,z1,z2,z3,z4,z5,z6⟩:=z
        have z1:i<=v.toNat:=z1
        have z3:xs.length=i:=z3
        have fl:=flat_len z4
        have fl:xs.flatten.length=xs.length*3:=fl
        have hd:(v.toNat-i)*3=(if i<v.toNat then 3 else 0)+(v.toNat-(i+1))*3:=by split<;>omega
        show Rnd Z2 6 Try.f89 [1,1,1,1,1,0] 3 Q (shL89_13 b l c s2 v0 v1 v2 v3 v4 v5 v6 v7 v8 v9 v10 v11 v12 v14 v15 v16 v17 v18 v19 v20 v21 v22 v23 v24 v25 v26 v27 v28 v29 hi v.toNat i tot (xs.flatten++List.replicate ((v.toNat-i)*3) 0) E2)
        refine rn89_13 (hB.mono (mt_ e1 z5)) hl z6 z1 (by omega) (by rw [List.length_append,List.length_replicate];omega) (fun e=>?_) hQ (fun g x s' E' hE hq hs=>?_)
        · have e:i=v.toNat:=e
          subst e
          have:=h xs s2 tot E2 (mt_ e1 z5) ⟨by unfold rLs;rw [q1];exact z2⟩ z6 z4
          rw [show (v.toNat-v.toNat)*3=0 by omega,show List.replicate 0 (0:Int)=[] from rfl,List.append_nil]
          rw [z3] at this
          exact this
        · have hx:=rEl90_len hq
          have:=ih ⟨⟨i+1,xs++[x],s',E'⟩,g,rRs_succ z2 hq,by show (xs++[x]).length=i+1;simp [z3],(fun y hy=>by rcases List.mem_append.1 hy with h1|h1;exact z4 y h1;rw [List.mem_singleton.1 h1];exact hx),mt_ z5 hE,hs⟩ (by show v.toNat-(i+1)<v.toNat-i;omega)
          rw [hd,if_pos g,show i*3=xs.flatten.length by omega,layI_next hx]
          have e2:(xs++[x]).flatten=xs.flatten++x:=by simp
          have this:Lp Z2 6 Try.f89 [1,1,1,1,1,0] 3 Q (shL89_13 b l c s' v0 v1 v2 v3 v4 v5 v6 v7 v8 v9 v10 v11 v12 v14 v15 v16 v17 v18 v19 v20 v21 v22 v23 v24 v25 v26 v27 v28 v29 hi v.toNat (i+1) tot ((xs++[x]).flatten++List.replicate ((v.toNat-(i+1))*3) 0) E'):=this
          rw [e2] at this
          exact this) ⟨⟨0,[],s1,E1⟩,Nat.zero_le _,rfl,rfl,(fun x hx=>by cases hx),mr_,w1⟩
    exact this
  refine condC (fun g=>absurd g (by simp;omega)) (fun _=>condC (fun g=>absurd g (by simp;omega)) (fun _=>alike (condC (fun g=>?_) (fun g=>?_))))
  · refine req_intro (by omega) (req_intro (by omega) ?_)
    rw [zeros_int (q:=.i64) (k:=3) (z:=[.int .i64 0,.int .i64 0,.int .i64 0]) rfl]
    exact Lp_re [some 0,some 1,some 2,some 4] (key _) (wkH mr_)
  · have g : v = 0 := by have g:0=v:=by simpa using g
                         exact g.symm
    subst g
    exact Lp_re [some 0,some 1,some 2,none] (key 0) (wkH mr_)
theorem rEl92_len (h:rEl 92 zs s=(x,s')):x.length=4:=rI_len (its:=its92) h
def shL91_14 (b:Option Addr) (l c:Nat) (s0:Int×Int) (v0 v1 v2 v3 v4 v5 v6 v7 v8 v9 v10 v11 v12 v13 v15 v16 v17 v18 v19 v20 v21 v22 v23 v24 v25 v26 v27 v28 v29:Value) (hi:Int) (m i tot:Nat) (ys:List Int) (E:Mem):St:=⟨[some (.ifc 79 (.loc 0 0)),oc 1 14,oI hi,some (.clo 92 [] [.loc 2 0]),none,none,none,none,none,none,none,none,none,none,none,none,none,none,none,none,none,none,none,none,none,none,none,none,none,none,none,none,none,none,none,none,none,oI (m:Nat),oI (i:Nat)]++List.replicate 10 none,[rBox b l c s0,⟨40,.lst [.raw v0,.raw v1,.raw v2,.raw v3,.raw v4,.raw v5,.raw v6,.raw v7,.raw v8,.raw v9,.raw v10,.raw v11,.raw v12,.raw v13,.slc 3 0 m m,.raw v15,.raw v16,.raw v17,.raw v18,.raw v19,.raw v20,.raw v21,.raw v22,.raw v23,.raw v24,.raw v25,.raw v26,.raw v27,.raw v28,.raw v29],30,true⟩,⟨129,.lst [.ifc 79 (.loc 0 0)],1,true⟩,⟨101,.vals ((ys).map (.int .i64)),tot,true⟩],E⟩
theorem rn91_14 (hB:Bs E b l c zs) (hl:l<=100000) (ha:0<=s0.1/\s0.1<=l) (hi':i<=m) (hm:m<=60) (hy:ys.length=m*4)
  (h:i=m->KK (.tup []) [rBox b l c s0,⟨40,.lst [.raw v0,.raw v1,.raw v2,.raw v3,.raw v4,.raw v5,.raw v6,.raw v7,.raw v8,.raw v9,.raw v10,.raw v11,.raw v12,.raw v13,.slc 3 0 m m,.raw v15,.raw v16,.raw v17,.raw v18,.raw v19,.raw v20,.raw v21,.raw v22,.raw v23,.raw v24,.raw v25,.raw v26,.raw v27,.raw v28,.raw v29],30,true⟩,⟨129,.lst [.ifc 79 (.loc 0 0)],1,true⟩,⟨101,.vals ((ys).map (.int .i64)),tot,true⟩] E) (hQ:∀ s bx' E',cloK 3 KK s bx' E'->Q s bx' E')
  (ih:i<m->∀ (x:List Int) (s':Int×Int) (E':Mem),Mem.le E E'->rEl 92 zs s0=(x,s')->0<=s'.1/\s'.1<=l->Lp Z2 6 Try.f91 [1,1,1,1,1,0] 3 Q (shL91_14 b l c s' v0 v1 v2 v3 v4 v5 v6 v7 v8 v9 v10 v11 v12 v13 v15 v16 v17 v18 v19 v20 v21 v22 v23 v24 v25 v26 v27 v28 v29 hi m (i+1) tot (layI ys (i*4) x) E')):
  Rnd Z2 6 Try.f91 [1,1,1,1,1,0] 3 Q (shL91_14 b l c s0 v0 v1 v2 v3 v4 v5 v6 v7 v8 v9 v10 v11 v12 v13 v15 v16 v17 v18 v19 v20 v21 v22 v23 v24 v25 v26 v27 v28 v29 hi m i tot ys E):=by
 refine sm_ (?_:bif decide ((NI i)<(NI m)) then req (0<=(NI i)/\(NI i)<(NI m)) ((129=129/\79=79/\1=1)/\∃ (zs:List Int),((81=81/\3=3/\Sx.Alike al2 (IntKind.i64=IntKind.i64))/\Bs E b l c zs/\l<=100000/\0<=s0.fst/\s0.fst<=(NI l))/\∃ (ys_1:List Int),(List.map (Value.int IntKind.i64) ys=List.map (Value.int IntKind.i64) ys_1/\0+Int.toNat (NI i)*4+4<=List.length ys_1/\(101=81->False)/\(101=129->False))/\True/\∀ (x:List Int) (s':Int×Int) (E':Mem),Mem.le E E'->RdE 92 zs (s0.fst,s0.snd) x s'->0<=s'.fst/\s'.fst<=(NI l)->Lp Z2 6 Try.f91 [1,1,1,1,1,0] 3 Q { fr:=some (SV.ifc 79 (SV.loc 0 0))::oc 1 14::oI hi::some (SV.clo 92 [] [SV.loc 2 0])::no32 (none::(oI (NI m)::oI (WI ((NI i)+1))::no8 (no2 []))),bx:=[(⟨81,.lst [L b l c,I s'.fst,I s'.snd],3,true⟩:Box),⟨40,.lst [SV.raw v0,SV.raw v1,SV.raw v2,SV.raw v3,SV.raw v4,SV.raw v5,SV.raw v6,SV.raw v7,SV.raw v8,SV.raw v9,SV.raw v10,SV.raw v11,SV.raw v12,SV.raw v13,SV.slc 3 0 m m,SV.raw v15,SV.raw v16,SV.raw v17,SV.raw v18,SV.raw v19,SV.raw v20,SV.raw v21,SV.raw v22,SV.raw v23,SV.raw v24,SV.raw v25,SV.raw v26,SV.raw v27,SV.raw v28,SV.raw v29],30,true⟩,⟨129,.lst [SV.ifc 79 (SV.loc 0 0)],1,true⟩,⟨101,.vals (List.map (Value.int IntKind.i64) (layI ys_1 (0+Int.toNat (NI i)*4) x)),tot,true⟩],E:=E':St }) else Q (SV.tup []) [⟨81,.lst [L b l c,I s0.fst,I s0.snd],3,true⟩,⟨40,.lst [SV.raw v0,SV.raw v1,SV.raw v2,SV.raw v3,SV.raw v4,SV.raw v5,SV.raw v6,SV.raw v7,SV.raw v8,SV.raw v9,SV.raw v10,SV.raw v11,SV.raw v12,SV.raw v13,SV.slc 3 0 m m,SV.raw v15,SV.raw v16,SV.raw v17,SV.raw v18,SV.raw v19,SV.raw v20,SV.raw v21,SV.raw v22,SV.raw v23,SV.raw v24,SV.raw v25,SV.raw v26,SV.raw v27,SV.raw v28,SV.raw v29],30,true⟩,⟨129,.lst [SV.ifc 79 (SV.loc 0 0)],1,true⟩,⟨101,.vals (List.map (Value.int IntKind.i64) ys),tot,true⟩] E)
 delta WI NI no2 no8 no32
 refine condC (fun g=>?_) (fun g=>?_)
 ·have g:i<m:=by simpa using g
  have w:IntKind.wrap .i64 ((i:Int)+1)=((i+1:Nat):Int):=by rw [wrap_i64 (by omega)];omega
  rw [w]
  refine req_intro (by omega) ⟨⟨rfl,rfl,rfl⟩,zs,⟨⟨rfl,rfl,alike rfl⟩,hB,hl,ha⟩,ys,⟨rfl,by rw [Int.toNat_natCast];omega,by decide,by decide⟩,trivial,fun x s' E' hE hq hs=>?_⟩
  rw [show 0+Int.toNat (i:Int)*4=i*4 by rw [Int.toNat_natCast];omega]
  exact Lp_re [some 0,some 1,some 2,some 3] (ih g x s' E' hE hq.eq hs) (wkH mr_)
 ·have g:i=m:=by simp at g;omega
  exact hQ _ _ _ (cloK_intro [some 0,some 1,some 2,some 3] (h g) (wkH mr_))
theorem rl91_14 (hB:Bs E b l c zs) (hl:l<=100000) (ha:0<=s0.1/\s0.1<=l) (hh:0<=hi/\hi<=60)
    (h:∀ (xs:List (List Int)) (s':Int×Int) (tot:Nat) (E':Mem),Mem.le E E'->RdL 92 hi zs s0 xs s'->0<=s'.1/\s'.1<=l->(∀ x∈xs,x.length=4)->KK (.tup []) [rBox b l c s',⟨40,.lst [.raw v0,.raw v1,.raw v2,.raw v3,.raw v4,.raw v5,.raw v6,.raw v7,.raw v8,.raw v9,.raw v10,.raw v11,.raw v12,.raw v13,.slc 3 0 xs.length xs.length,.raw v15,.raw v16,.raw v17,.raw v18,.raw v19,.raw v20,.raw v21,.raw v22,.raw v23,.raw v24,.raw v25,.raw v26,.raw v27,.raw v28,.raw v29],30,true⟩,⟨129,.lst [.ifc 79 (.loc 0 0)],1,true⟩,⟨101,.vals ((xs.flatten).map (.int .i64)),tot,true⟩] E') (hQ:∀ s bx' E',cloK 3 KK s bx' E'->Q s bx' E'):
    EntB Z2 6 Try.f91 [.ifc 79 (.loc 0 0),.loc 1 14,I hi,.clo 92 [] [.loc 2 0]] [rBox b l c s0,⟨40,.lst [.raw v0,.raw v1,.raw v2,.raw v3,.raw v4,.raw v5,.raw v6,.raw v7,.raw v8,.raw v9,.raw v10,.raw v11,.raw v12,.raw v13,L none 0 0,.raw v15,.raw v16,.raw v17,.raw v18,.raw v19,.raw v20,.raw v21,.raw v22,.raw v23,.raw v24,.raw v25,.raw v26,.raw v27,.raw v28,.raw v29],30,true⟩,⟨129,.lst [.ifc 79 (.loc 0 0)],1,true⟩] E Q:=by
  refine sm_ (?_:∃ (zs:List Int),((81=81/\3=3/\Sx.Alike al2 (IntKind.i64=IntKind.i64))/\Bs E b l c zs/\l<=100000/\0<=s0.fst/\s0.fst<=(NI l))/\IntKind.i64=IntKind.i64/\(0=3->False)/\∀ (v:Int) (s':Int×Int) (E':Mem),Mem.le E E'->Hyp (rnum zs (s0.fst,s0.snd) 0 hi=(v,s'))->0<=s'.fst/\s'.fst<=(NI l)->bif decide (v<(0:Int)) then Q (SV.tup []) [⟨81,.lst [L b l c,I s'.fst,I s'.snd],3,true⟩,⟨40,.lst [SV.raw v0,SV.raw v1,SV.raw v2,SV.raw v3,SV.raw v4,SV.raw v5,SV.raw v6,SV.raw v7,SV.raw v8,SV.raw v9,SV.raw v10,SV.raw v11,SV.raw v12,SV.raw v13,L none 0 0,SV.raw v15,SV.raw v16,SV.raw v17,SV.raw v18,SV.raw v19,SV.raw v20,SV.raw v21,SV.raw v22,SV.raw v23,SV.raw v24,SV.raw v25,SV.raw v26,SV.raw v27,SV.raw v28,SV.raw v29],30,true⟩,⟨129,.lst [SV.ifc 79 (SV.loc 0 0)],1,true⟩,⟨3,.lst [I v],1,true⟩] E' else bif bif false then true else decide (v>hi) then Q (SV.tup []) [⟨81,.lst [L b l c,I s'.fst,I s'.snd],3,true⟩,⟨40,.lst [SV.raw v0,SV.raw v1,SV.raw v2,SV.raw v3,SV.raw v4,SV.raw v5,SV.raw v6,SV.raw v7,SV.raw v8,SV.raw v9,SV.raw v10,SV.raw v11,SV.raw v12,SV.raw v13,L none 0 0,SV.raw v15,SV.raw v16,SV.raw v17,SV.raw v18,SV.raw v19,SV.raw v20,SV.raw v21,SV.raw v22,SV.raw v23,SV.raw v24,SV.raw v25,SV.raw v26,SV.raw v27,SV.raw v28,SV.raw v29],30,true⟩,⟨129,.lst [SV.ifc 79 (SV.loc 0 0)],1,true⟩,⟨3,.lst [I v],1,true⟩] E' else Sx.Alike al2 (bif (0:Int) !=v then req ((0:Int)<=v/\v<=v) (req (v*(32:Int)<=(140737488355328:Int)) (Lp Z2 6 Try.f91 [1,1,1,1,1,0] 3 Q { fr:=some (SV.ifc 79 (SV.loc 0 0))::oc 1 14::oI hi::some (SV.clo 92 [] [SV.loc 2 0])::none::none::none::none::oc 3 0::none::oc 1 14::oc 1 14::oL none 0 0::oI 0::some (SV.ifc 79 (SV.loc 0 0))::oI hi::some (SV.tup [])::oI v::oB (decide (v<(0:Int)))::oB false::oI v::oI hi::oB (decide (v>hi))::oB (bif false then true else decide (v>hi))::oc 1 14::oc 1 14::oL none 0 0::oI 0::oI v::oB ((0:Int) !=v)::oc 1 14::oI v::os 4 0 (Int.toNat v) (Int.toNat v)::oc 1 14::oc 1 14::oc 1 14::os 4 0 (Int.toNat v) (Int.toNat v)::oI (NI (Int.toNat v))::oI 0::no8 (no2 []),bx:=[(⟨81,.lst [L b l c,I s'.fst,I s'.snd],3,true⟩:Box),⟨40,.lst [SV.raw v0,SV.raw v1,SV.raw v2,SV.raw v3,SV.raw v4,SV.raw v5,SV.raw v6,SV.raw v7,SV.raw v8,SV.raw v9,SV.raw v10,SV.raw v11,SV.raw v12,SV.raw v13,SV.slc 4 0 (Int.toNat v) (Int.toNat v),SV.raw v15,SV.raw v16,SV.raw v17,SV.raw v18,SV.raw v19,SV.raw v20,SV.raw v21,SV.raw v22,SV.raw v23,SV.raw v24,SV.raw v25,SV.raw v26,SV.raw v27,SV.raw v28,SV.raw v29],30,true⟩,⟨129,.lst [SV.ifc 79 (SV.loc 0 0)],1,true⟩,⟨3,.lst [I v],1,true⟩,⟨101,.vals (zerosV [Value.int IntKind.i64 0,Value.int IntKind.i64 0,Value.int IntKind.i64 0,Value.int IntKind.i64 0] (Int.toNat v)),Int.toNat v*4,true⟩],E:=E':St })) else Lp Z2 6 Try.f91 [1,1,1,1,1,0] 3 Q { fr:=some (SV.ifc 79 (SV.loc 0 0))::oc 1 14::oI hi::some (SV.clo 92 [] [SV.loc 2 0])::none::none::none::none::oc 3 0::none::oc 1 14::oc 1 14::oL none 0 0::oI 0::some (SV.ifc 79 (SV.loc 0 0))::oI hi::some (SV.tup [])::oI v::oB (decide (v<(0:Int)))::oB false::oI v::oI hi::oB (decide (v>hi))::oB (bif false then true else decide (v>hi))::oc 1 14::oc 1 14::oL none 0 0::oI 0::oI v::oB ((0:Int) !=v)::none::none::none::none::oc 1 14::oc 1 14::oL none 0 0::oI 0::oI 0::no8 (no2 []),bx:=[(⟨81,.lst [L b l c,I s'.fst,I s'.snd],3,true⟩:Box),⟨40,.lst [SV.raw v0,SV.raw v1,SV.raw v2,SV.raw v3,SV.raw v4,SV.raw v5,SV.raw v6,SV.raw v7,SV.raw v8,SV.raw v9,SV.raw v10,SV.raw v11,SV.raw v12,SV.raw v13,L none 0 0,SV.raw v15,SV.raw v16,SV.raw v17,SV.raw v18,SV.raw v19,SV.raw v20,SV.raw v21,SV.raw v22,SV.raw v23,SV.raw v24,SV.raw v25,SV.raw v26,SV.raw v27,SV.raw v28,SV.raw v29],30,true⟩,⟨129,.lst [SV.ifc 79 (SV.loc 0 0)],1,true⟩,⟨3,.lst [I v],1,true⟩],E:=E':St }))
  delta NI no2 no8
  refine ⟨zs,⟨⟨rfl,rfl,alike rfl⟩,hB,hl,ha⟩,rfl,by decide,fun v s1 E1 e1 q1 w1=>?_⟩
  have q1:rnum zs s0 0 hi=(v,s1):=q1
  have r1:=rnum_range q1 hh.1
  have key:∀ tot:Nat,Lp Z2 6 Try.f91 [1,1,1,1,1,0] 3 Q (shL91_14 b l c s1 v0 v1 v2 v3 v4 v5 v6 v7 v8 v9 v10 v11 v12 v13 v15 v16 v17 v18 v19 v20 v21 v22 v23 v24 v25 v26 v27 v28 v29 hi v.toNat 0 tot (List.replicate (v.toNat*4) 0) E1):=by
    intro tot
    have:=Lp_ind okZ2 (n:=6) (fn:=Try.f91) (p:=[1,1,1,1,1,0]) (n0:=3) (K:=Q) (fun z:{z:Nat×List (List Int)×(Int×Int)×Mem//z.1<=v.toNat/\rRs 92 zs z.1 s1=(z.2.1,z.2.2.1)/\z.2.1.length=z.1/\(∀ x∈z.2.1,x.length=4)/\Mem.le E1 z.2.2.2/\(0<=z.2.2.1.1/\z.2.2.1.1<=l)}=>shL91_14 b l c z.1.2.2.1 v0 v1 v2 v3 v4 v5 v6 v7 v8 v9 v10 v11 v12 v13 v15 v16 v17 v18 v19 v20 v21 v22 v23 v24 v25 v26 v27 v28 v29 hi v.toNat z.1.1 tot (z.1.2.1.flatten++List.replicate ((v.toNat-z.1.1)*4) 0) z.1.2.2.2) (fun z=>v.toNat-z.1.1)
      (fun z ih=>by
        obtain ⟨⟨i,xs,s2,E2⟩,z1,z2,z3,z4,z5,z6⟩:=z
        have z1:i<=v.toNat:=z1
        have z3:xs.length=i:=z3
        have fl:=flat_len z4
        have fl:xs.flatten.length=xs.length*4:=fl
        have hd:(v.toNat-i)*4=(if i<v.toNat then 4 else 0)+(v.toNat-(i+1))*4:=by split<;>omega
        show Rnd Z2 6 Try.f91 [1,1,1,1,1,0] 3 Q (shL91_14 b l c s2 v0 v1 v2 v3 v4 v5 v6 v7 v8 v9 v10 v11 v12 v13 v15 v16 v17 v18 v19 v20 v21 v22 v23 v24 v25 v26 v27 v28 v29 hi v.toNat i tot (xs.flatten++List.replicate ((v.toNat-i)*4) 0) E2)
        refine rn91_14 (hB.mono (mt_ e1 z5)) hl z6 z1 (by omega) (by rw [List.length_append,List.length_replicate];omega) (fun e=>?_) hQ (fun g x s' E' hE hq hs=>?_)
        · have e:i=v.toNat:=e
          subst e
          have:=h xs s2 tot E2 (mt_ e1 z5) ⟨by unfold rLs;rw [q1];exact z2⟩ z6 z4
          rw [show (v.toNat-v.toNat)*4=0 by omega,show List.replicate 0 (0:Int)=[] from rfl,List.append_nil]
          rw [z3] at this
          exact this
        · have hx:=rEl92_len hq
          have:=ih ⟨⟨i+1,xs++[x],s',E'⟩,g,rRs_succ z2 hq,by show (xs++[x]).length=i+1;simp [z3],(fun y hy=>by rcases List.mem_append.1 hy with h1|h1;exact z4 y h1;rw [List.mem_singleton.1 h1];exact hx),mt_ z5 hE,hs⟩ (by show v.toNat-(i+1)<v.toNat-i;omega)
          rw [hd,if_pos g,show i*4=xs.flatten.length by omega,layI_next hx]
          have e2:(xs++[x]).flatten=xs.flatten++x:=by simp
          have this:Lp Z2 6 Try.f91 [1,1,1,1,1,0] 3 Q (shL91_14 b l c s' v0 v1 v2 v3 v4 v5 v6 v7 v8 v9 v10 v11 v12 v13 v15 v16 v17 v18 v19 v20 v21 v22 v23 v24 v25 v26 v27 v28 v29 hi v.toNat (i+1) tot ((xs++[x]).flatten++List.replicate ((v.toNat-(i+1))*4) 0) E'):=this
          rw [e2] at this
          exact this) ⟨⟨0,[],s1,E1⟩,Nat.zero_le _,rfl,rfl,(fun x hx=>by cases hx),mr_,w1⟩
    exact this
  refine condC (fun g=>absurd g (by simp;omega)) (fun _=>condC (fun g=>absurd g (by simp;omega)) (fun _=>alike (condC (fun g=>?_) (fun g=>?_))))
  · refine req_intro (by omega) (req_intro (by omega) ?_)
    rw [zeros_int (q:=.i64) (k:=4) (z:=[.int .i64 0,.int .i64 0,.int .i64 0,.int .i64 0]) rfl]
    exact Lp_re [some 0,some 1,some 2,some 4] (key _) (wkH mr_)
  · have g : v = 0 := by have g:0=v:=by simpa using g
                         exact g.symm
    subst g
    exact Lp_re [some 0,some 1,some 2,none] (key 0) (wkH mr_)
theorem rEl94_len (h:rEl 94 zs s=(x,s')):x.length=8:=rI_len (its:=its94) h
def shL93_16 (b:Option Addr) (l c:Nat) (s0:Int×Int) (v0 v1 v2 v3 v4 v5 v6 v7 v8 v9 v10 v11 v12 v13 v14 v15 v17 v18 v19 v20 v21 v22 v23 v24 v25 v26 v27 v28 v29:Value) (hi:Int) (m i tot:Nat) (ys:List Int) (E:Mem):St:=⟨[some (.ifc 79 (.loc 0 0)),oc 1 16,oI hi,some (.clo 94 [] [.loc 2 0]),none,none,none,none,none,none,none,none,none,none,none,none,none,none,none,none,none,none,none,none,none,none,none,none,none,none,none,none,none,none,none,none,none,oI (m:Nat),oI (i:Nat)]++List.replicate 10 none,[rBox b l c s0,⟨40,.lst [.raw v0,.raw v1,.raw v2,.raw v3,.raw v4,.raw v5,.raw v6,.raw v7,.raw v8,.raw v9,.raw v10,.raw v11,.raw v12,.raw v13,.raw v14,.raw v15,.slc 3 0 m m,.raw v17,.raw v18,.raw v19,.raw v20,.raw v21,.raw v22,.raw v23,.raw v24,.raw v25,.raw v26,.raw v27,.raw v28,.raw v29],30,true⟩,⟨129,.lst [.ifc 79 (.loc 0 0)],1,true⟩,⟨127,.vals ((ys).map (.int .i64)),tot,true⟩],E⟩
theorem rn93_16 (hB:Bs E b l c zs) (hl:l<=100000) (ha:0<=s0.1/\s0.1<=l) (hi':i<=m) (hm:m<=60) (hy:ys.length=m*8)
  (h:i=m->KK (.tup []) [rBox b l c s0,⟨40,.lst [.raw v0,.raw v1,.raw v2,.raw v3,.raw v4,.raw v5,.raw v6,.raw v7,.raw v8,.raw v9,.raw v10,.raw v11,.raw v12,.raw v13,.raw v14,.raw v15,.slc 3 0 m m,.raw v17,.raw v18,.raw v19,.raw v20,.raw v21,.raw v22,.raw v23,.raw v24,.raw v25,.raw v26,.raw v27,.raw v28,.raw v29],30,true⟩,⟨129,.lst [.ifc 79 (.loc 0 0)],1,true⟩,⟨127,.vals ((ys).map (.int .i64)),tot,true⟩] E) (hQ:∀ s bx' E',cloK 3 KK s bx' E'->Q s bx' E')
  (ih:i<m->∀ (x:List Int) (s':Int×Int) (E':Mem),Mem.le E E'->rEl 94 zs s0=(x,s')->0<=s'.1/\s'.1<=l->Lp Z2 6 Try.f93 [1,1,1,1,1,0] 3 Q (shL93_16 b l c s' v0 v1 v2 v3 v4 v5 v6 v7 v8 v9 v10 v11 v12 v13 v14 v15 v17 v18 v19 v20 v21 v22 v23 v24 v25 v26 v27 v28 v29 hi m (i+1) tot (layI ys (i*8) x) E')):
  Rnd Z2 6 Try.f93 [1,1,1,1,1,0] 3 Q (shL93_16 b l c s0 v0 v1 v2 v3 v4 v5 v6 v7 v8 v9 v10 v11 v12 v13 v14 v15 v17 v18 v19 v20 v21 v22 v23 v24 v25 v26 v27 v28 v29 hi m i tot ys E):=by
 refine sm_ (?_:bif decide ((NI i)<(NI m)) then req (0<=(NI i)/\(NI i)<(NI m)) ((129=129/\79=79/\1=1)/\∃ (zs:List Int),((81=81/\3=3/\Sx.Alike al2 (IntKind.i64=IntKind.i64))/\Bs E b l c zs/\l<=100000/\0<=s0.fst/\s0.fst<=(NI l))/\∃ (ys_1:List Int),(List.map (Value.int IntKind.i64) ys=List.map (Value.int IntKind.i64) ys_1/\0+Int.toNat (NI i)*8+8<=List.length ys_1/\(127=81->False)/\(127=129->False))/\True/\∀ (x:List Int) (s':Int×Int) (E':Mem),Mem.le E E'->RdE 94 zs (s0.fst,s0.snd) x s'->0<=s'.fst/\s'.fst<=(NI l)->Lp Z2 6 Try.f93 [1,1,1,1,1,0] 3 Q { fr:=some (SV.ifc 79 (SV.loc 0 0))::oc 1 16::oI hi::some (SV.clo 94 [] [SV.loc 2 0])::no32 (none::(oI (NI m)::oI (WI ((NI i)+1))::no8 (no2 []))),bx:=[(⟨81,.lst [L b l c,I s'.fst,I s'.snd],3,true⟩:Box),⟨40,.lst [SV.raw v0,SV.raw v1,SV.raw v2,SV.raw v3,SV.raw v4,SV.raw v5,SV.raw v6,SV.raw v7,SV.raw v8,SV.raw v9,SV.raw v10,SV.raw v11,SV.raw v12,SV.raw v13,SV.raw v14,SV.raw v15,SV.slc 3 0 m m,SV.raw v17,SV.raw v18,SV.raw v19,SV.raw v20,SV.raw v21,SV.raw v22,SV.raw v23,SV.raw v24,SV.raw v25,SV.raw v26,SV.raw v27,SV.raw v28,SV.raw v29],30,true⟩,⟨129,.lst [SV.ifc 79 (SV.loc 0 0)],1,true⟩,⟨127,.vals (List.map (Value.int IntKind.i64) (layI ys_1 (0+Int.toNat (NI i)*8) x)),tot,true⟩],E:=E':St }) else Q (SV.tup []) [⟨81,.lst [L b l c,I s0.fst,I s0.snd],3,true⟩,⟨40,.lst [SV.raw v0,SV.raw v1,SV.raw v2,SV.raw v3,SV.raw v4,SV.raw v5,SV.raw v6,SV.raw v7,SV.raw v8,SV.raw v9,SV.raw v10,SV.raw v11,SV.raw v12,SV.raw v13,SV.raw v14,SV.raw v15,SV.slc 3 0 m m,SV.raw v17,SV.raw v18,SV.raw v19,SV.raw v20,SV.raw v21,SV.raw v22,SV.raw v23,SV.raw v24,SV.raw v25,SV.raw v26,SV.raw v27,SV.raw v28,SV.raw v29],30,true⟩,⟨129,.lst [SV.ifc 79 (SV.loc 0 0)],1,true⟩,⟨127,.vals (List.map (Value.int IntKind.i64) ys),tot,true⟩] E)
 delta WI NI no2 no8 no32
 refine condC (fun g=>?_) (fun g=>?_)
 ·have g:i<m:=by simpa using g
  have w:IntKind.wrap .i64 ((i:Int)+1)=((i+1:Nat):Int):=by rw [wrap_i64 (by omega)];omega
  rw [w]
  refine req_intro (by omega) ⟨⟨rfl,rfl,rfl⟩,zs,⟨⟨rfl,rfl,alike rfl⟩,hB,hl,ha⟩,ys,⟨rfl,by rw [Int.toNat_natCast];omega,by decide,by decide⟩,trivial,fun x s' E' hE hq hs=>?_⟩
  rw [show 0+Int.toNat (i:Int)*8=i*8 by rw [Int.toNat_natCast];omega]
  exact Lp_re [some 0,some 1,some 2,some 3] (ih g x s' E' hE hq.eq hs) (wkH mr_)
 ·have g:i=m:=by simp at g;omega
  exact hQ _ _ _ (cloK_intro [some 0,some 1,some 2,some 3] (h g) (wkH mr_))
theorem rl93_16 (hB:Bs E b l c zs) (hl:l<=100000) (ha:0<=s0.1/\s0.1<=l) (hh:0<=hi/\hi<=60)
    (h:∀ (xs:List (List Int)) (s':Int×Int) (tot:Nat) (E':Mem),Mem.le E E'->RdL 94 hi zs s0 xs s'->0<=s'.1/\s'.1<=l->(∀ x∈xs,x.length=8)->KK (.tup []) [rBox b l c s',⟨40,.lst [.raw v0,.raw v1,.raw v2,.raw v3,.raw v4,.raw v5,.raw v6,.raw v7,.raw v8,.raw v9,.raw v10,.raw v11,.raw v12,.raw v13,.raw v14,.raw v15,.slc 3 0 xs.length xs.length,.raw v17,.raw v18,.raw v19,.raw v20,.raw v21,.raw v22,.raw v23,.raw v24,.raw v25,.raw v26,.raw v27,.raw v28,.raw v29],30,true⟩,⟨129,.lst [.ifc 79 (.loc 0 0)],1,true⟩,⟨127,.vals ((xs.flatten).map (.int .i64)),tot,true⟩] E') (hQ:∀ s bx' E',cloK 3 KK s bx' E'->Q s bx' E'):
    EntB Z2 6 Try.f93 [.ifc 79 (.loc 0 0),.loc 1 16,I hi,.clo 94 [] [.loc 2 0]] [rBox b l c s0,⟨40,.lst [.raw v0,.raw v1,.raw v2,.raw v3,.raw v4,.raw v5,.raw v6,.raw v7,.raw v8,.raw v9,.raw v10,.raw v11,.raw v12,.raw v13,.raw v14,.raw v15,L none 0 0,.raw v17,.raw v18,.raw v19,.raw v20,.raw v21,.raw v22,.raw v23,.raw v24,.raw v25,.raw v26,.raw v27,.raw v28,.raw v29],30,true⟩,⟨129,.lst [.ifc 79 (.loc 0 0)],1,true⟩] E Q:=by
  refine sm_ (?_:∃ (zs:List Int),((81=81/\3=3/\Sx.Alike al2 (IntKind.i64=IntKind.i64))/\Bs E b l c zs/\l<=100000/\0<=s0.fst/\s0.fst<=(NI l))/\IntKind.i64=IntKind.i64/\(0=3->False)/\∀ (v:Int) (s':Int×Int) (E':Mem),Mem.le E E'->Hyp (rnum zs (s0.fst,s0.snd) 0 hi=(v,s'))->0<=s'.fst/\s'.fst<=(NI l)->bif decide (v<(0:Int)) then Q (SV.tup []) [⟨81,.lst [L b l c,I s'.fst,I s'.snd],3,true⟩,⟨40,.lst [SV.raw v0,SV.raw v1,SV.raw v2,SV.raw v3,SV.raw v4,SV.raw v5,SV.raw v6,SV.raw v7,SV.raw v8,SV.raw v9,SV.raw v10,SV.raw v11,SV.raw v12,SV.raw v13,SV.raw v14,SV.raw v15,L none 0 0,SV.raw v17,SV.raw v18,SV.raw v19,SV.raw v20,SV.raw v21,SV.raw v22,SV.raw v23,SV.raw v24,SV.raw v25,SV.raw v26,SV.raw v27,SV.raw v28,SV.raw v29],30,true⟩,⟨129,.lst [SV.ifc 79 (SV.loc 0 0)],1,true⟩,⟨3,.lst [I v],1,true⟩] E' else bif bif false then true else decide (v>hi) then Q (SV.tup []) [⟨81,.lst [L b l c,I s'.fst,I s'.snd],3,true⟩,⟨40,.lst [SV.raw v0,SV.raw v1,SV.raw v2,SV.raw v3,SV.raw v4,SV.raw v5,SV.raw v6,SV.raw v7,SV.raw v8,SV.raw v9,SV.raw v10,SV.raw v11,SV.raw v12,SV.raw v13,SV.raw v14,SV.raw v15,L none 0 0,SV.raw v17,SV.raw v18,SV.raw v19,SV.raw v20,SV.raw v21,SV.raw v22,SV.raw v23,SV.raw v24,SV.raw v25,SV.raw v26,SV.raw v27,SV.raw v28,SV.raw v29],30,true⟩,⟨129,.lst [SV.ifc 79 (SV.loc 0 0)],1,true⟩,⟨3,.lst [I v],1,true⟩] E' else Sx.Alike al2 (bif (0:Int) !=v then req ((0:Int)<=v/\v<=v) (req (v*(64:Int)<=(140737488355328:Int)) (Lp Z2 6 Try.f93 [1,1,1,1,1,0] 3 Q { fr:=some (SV.ifc 79 (SV.loc 0 0))::oc 1 16::oI hi::some (SV.clo 94 [] [SV.loc 2 0])::none::none::none::none::oc 3 0::none::oc 1 16::oc 1 16::oL none 0 0::oI 0::some (SV.ifc 79 (SV.loc 0 0))::oI hi::some (SV.tup [])::oI v::oB (decide (v<(0:Int)))::oB false::oI v::oI hi::oB (decide (v>hi))::oB (bif false then true else decide (v>hi))::oc 1 16::oc 1 16::oL none 0 0::oI 0::oI v::oB ((0:Int) !=v)::oc 1 16::oI v::os 4 0 (Int.toNat v) (Int.toNat v)::oc 1 16::oc 1 16::oc 1 16::os 4 0 (Int.toNat v) (Int.toNat v)::oI (NI (Int.toNat v))::oI 0::no8 (no2 []),bx:=[(⟨81,.lst [L b l c,I s'.fst,I s'.snd],3,true⟩:Box),⟨40,.lst [SV.raw v0,SV.raw v1,SV.raw v2,SV.raw v3,SV.raw v4,SV.raw v5,SV.raw v6,SV.raw v7,SV.raw v8,SV.raw v9,SV.raw v10,SV.raw v11,SV.raw v12,SV.raw v13,SV.raw v14,SV.raw v15,SV.slc 4 0 (Int.toNat v) (Int.toNat v),SV.raw v17,SV.raw v18,SV.raw v19,SV.raw v20,SV.raw v21,SV.raw v22,SV.raw v23,SV.raw v24,SV.raw v25,SV.raw v26,SV.raw v27,SV.raw v28,SV.raw v29],30,true⟩,⟨129,.lst [SV.ifc 79 (SV.loc 0 0)],1,true⟩,⟨3,.lst [I v],1,true⟩,⟨127,.vals (zerosV [Value.int IntKind.i64 0,Value.int IntKind.i64 0,Value.int IntKind.i64 0,Value.int IntKind.i64 0,Value.int IntKind.i64 0,Value.int IntKind.i64 0,Value.int IntKind.i64 0,Value.int IntKind.i64 0] (Int.toNat v)),Int.toNat v*8,true⟩],E:=E':St })) else Lp Z2 6 Try.f93 [1,1,1,1,1,0] 3 Q { fr:=some (SV.ifc 79 (SV.loc 0 0))::oc 1 16::oI hi::some (SV.clo 94 [] [SV.loc 2 0])::none::none::none::none::oc 3 0::none::oc 1 16::oc 1 16::oL none 0 0::oI 0::some (SV.ifc 79 (SV.loc 0 0))::oI hi::some (SV.tup [])::oI v::oB (decide (v<(0:Int)))::oB false::oI v::oI hi::oB (decide (v>hi))::oB (bif false then true else decide (v>hi))::oc 1 16::oc 1 16::oL none 0 0::oI 0::oI v::oB ((0:Int) !=v)::none::none::none::none::oc 1 16::oc 1 16::oL none 0 0::oI 0::oI 0::no8 (no2 []),bx:=[(⟨81,.lst [L b l c,I s'.fst,I s'.snd],3,true⟩:Box),⟨40,.lst [SV.raw v0,SV.raw v1,SV.raw v2,SV.raw v3,SV.raw v4,SV.raw v5,SV.raw v6,SV.raw v7,SV.raw v8,SV.raw v9,SV.raw v10,SV.raw v11,SV.raw v12,SV.raw v13,SV.raw v14,SV.raw v15,L none 0 0,SV.raw v17,SV.raw v18,SV.raw v19,SV.raw v20,SV.raw v21,SV.raw v22,SV.raw v23,SV.raw v24,SV.raw v25,SV.raw v26,SV.raw v27,SV.raw v28,SV.raw v29],30,true⟩,⟨129,.lst [SV.ifc 79 (SV.loc 0 0)],1,true⟩,⟨3,.lst [I v],1,true⟩],E:=E':St }))
  delta NI no2 no8
  refine ⟨zs,⟨⟨rfl,rfl,alike rfl⟩,hB,hl,ha⟩,rfl,by decide,fun v s1 E1 e1 q1 w1=>?_⟩
  have q1:rnum zs s0 0 hi=(v,s1):=q1
  have r1:=rnum_range q1 hh.1
  have key:∀ tot:Nat,Lp Z2 6 Try.f93 [1,1,1,1,1,0] 3 Q (shL93_16 b l c s1 v0 v1 v2 v3 v4 v5 v6 v7 v8 v9 v10 v11 v12 v13 v14 v15 v17 v18 v19 v20 v21 v22 v23 v24 v25 v26 v27 v28 v29 hi v.toNat 0 tot (List.replicate (v.toNat*8) 0) E1):=by
    intro tot
    have:=Lp_ind okZ2 (n:=6) (fn:=Try.f93) (p:=[1,1,1,1,1,0]) (n0:=3) (K:=Q) (fun z:{z:Nat×List (List Int)×(Int×Int)×Mem//z.1<=v.toNat/\rRs 94 zs z.1 s1=(z.2.1,z.2.2.1)/\z.2.1.length=z.1/\(∀ x∈z.2.1,x.length=8)/\Mem.le E1 z.2.2.2/\(0<=z.2.2.1.1/\z.2.2.1.1<=l)}=>shL93_16 b l c z.1.2.2.1 v0 v1 v2 v3 v4 v5 v6 v7 v8 v9 v10 v11 v12 v13 v14 v15 v17 v18 v19 v20 v21 v22 v23 v24 v25 v26 v27 v28 v29 hi v.toNat z.1.1 tot (z.1.2.1.flatten++List.replicate ((v.toNat-z.1.1)*8) 0) z.1.2.2.2) (fun z=>v.toNat-z.1.1)
      (fun z ih=>by
        obtain ⟨⟨i,xs,s2,E2⟩,z1,z2,z3,z4,z5,z6⟩:=z
        have z1:i<=v.toNat:=z1
        have z3:xs.length=i:=z3
        have fl:=flat_len z4
        have fl:xs.flatten.length=xs.length*8:=fl
        have hd:(v.toNat-i)*8=(if i<v.toNat then 8 else 0)+(v.toNat-(i+1))*8:=by split<;>omega
        show Rnd Z2 6 Try.f93 [1,1,1,1,1,0] 3 Q (shL93_16 b l c s2 v0 v1 v2 v3 v4 v5 v6 v7 v8 v9 v10 v11 v12 v13 v14 v15 v17 v18 v19 v20 v21 v22 v23 v24 v25 v26 v27 v28 v29 hi v.toNat i tot (xs.flatten++List.replicate ((v.toNat-i)*8) 0) E2)
        refine rn93_16 (hB.mono (mt_ e1 z5)) hl z6 z1 (by omega) (by rw [List.length_append,List.length_replicate];omega) (fun e=>?_) hQ (fun g x s' E' hE hq hs=>?_)
        · have e:i=v.toNat:=e
          subst e
          have:=h xs s2 tot E2 (mt_ e1 z5) ⟨by unfold rLs;rw [q1];exact z2⟩ z6 z4
          rw [show (v.toNat-v.toNat)*8=0 by omega,show List.replicate 0 (0:Int)=[] from rfl,List.append_nil]
          rw [z3] at this
          exact this
        · have hx:=rEl94_len hq
          have:=ih ⟨⟨i+1,xs++[x],s',E'⟩,g,rRs_succ z2 hq,by show (xs++[x]).length=i+1;simp [z3],(fun y hy=>by rcases List.mem_append.1 hy with h1|h1;exact z4 y h1;rw [List.mem_singleton.1 h1];exact hx),mt_ z5 hE,hs⟩ (by show v.toNat-(i+1)<v.toNat-i;omega)
          rw [hd,if_pos g,show i*8=xs.flatten.length by omega,layI_next hx]
          have e2:(xs++[x]).flatten=xs.flatten++x:=by simp
          have this:Lp Z2 6 Try.f93 [1,1,1,1,1,0] 3 Q (shL93_16 b l c s' v0 v1 v2 v3 v4 v5 v6 v7 v8 v9 v10 v11 v12 v13 v14 v15 v17 v18 v19 v20 v21 v22 v23 v24 v25 v26 v27 v28 v29 hi v.toNat (i+1) tot ((xs++[x]).flatten++List.replicate ((v.toNat-(i+1))*8) 0) E'):=this
          rw [e2] at this
          exact this) ⟨⟨0,[],s1,E1⟩,Nat.zero_le _,rfl,rfl,(fun x hx=>by cases hx),mr_,w1⟩
    exact this
  refine condC (fun g=>absurd g (by simp;omega)) (fun _=>condC (fun g=>absurd g (by simp;omega)) (fun _=>alike (condC (fun g=>?_) (fun g=>?_))))
  · refine req_intro (by omega) (req_intro (by omega) ?_)
    rw [zeros_int (q:=.i64) (k:=8) (z:=[.int .i64 0,.int .i64 0,.int .i64 0,.int .i64 0,.int .i64 0,.int .i64 0,.int .i64 0,.int .i64 0]) rfl]
    exact Lp_re [some 0,some 1,some 2,some 4] (key _) (wkH mr_)
  · have g : v = 0 := by have g:0=v:=by simpa using g
                         exact g.symm
    subst g
    exact Lp_re [some 0,some 1,some 2,none] (key 0) (wkH mr_)
def shL93_17 (b:Option Addr) (l c:Nat) (s0:Int×Int) (v0 v1 v2 v3 v4 v5 v6 v7 v8 v9 v10 v11 v12 v13 v14 v15 v16 v18 v19 v20 v21 v22 v23 v24 v25 v26 v27 v28 v29:Value) (hi:Int) (m i tot:Nat) (ys:List Int) (E:Mem):St:=⟨[some (.ifc 79 (.loc 0 0)),oc 1 17,oI hi,some (.clo 94 [] [.loc 2 0]),none,none,none,none,none,none,none,none,none,none,none,none,none,none,none,none,none,none,none,none,none,none,none,none,none,none,none,none,none,none,none,none,none,oI (m:Nat),oI (i:Nat)]++List.replicate 10 none,[rBox b l c s0,⟨40,.lst [.raw v0,.raw v1,.raw v2,.raw v3,.raw v4,.raw v5,.raw v6,.raw v7,.raw v8,.raw v9,.raw v10,.raw v11,.raw v12,.raw v13,.raw v14,.raw v15,.raw v16,.slc 3 0 m m,.raw v18,.raw v19,.raw v20,.raw v21,.raw v22,.raw v23,.raw v24,.raw v25,.raw v26,.raw v27,.raw v28,.raw v29],30,true⟩,⟨129,.lst [.ifc 79 (.loc 0 0)],1,true⟩,⟨127,.vals ((ys).map (.int .i64)),tot,true⟩],E⟩
theorem rn93_17 (hB:Bs E b l c zs) (hl:l<=100000) (ha:0<=s0.1/\s0.1<=l) (hi':i<=m) (hm:m<=60) (hy:ys.length=m*8)
  (h:i=m->KK (.tup []) [rBox b l c s0,⟨40,.lst [.raw v0,.raw v1,.raw v2,.raw v3,.raw v4,.raw v5,.raw v6,.raw v7,.raw v8,.raw v9,.raw v10,.raw v11,.raw v12,.raw v13,.raw v14,.raw v15,.raw v16,.slc 3 0 m m,.raw v18,.raw v19,.raw v20,.raw v21,.raw v22,.raw v23,.raw v24,.raw v25,.raw v26,.raw v27,.raw v28,.raw v29],30,true⟩,⟨129,.lst [.ifc 79 (.loc 0 0)],1,true⟩,⟨127,.vals ((ys).map (.int .i64)),tot,true⟩] E) (hQ:∀ s bx' E',cloK 3 KK s bx' E'->Q s bx' E')
  (ih:i<m->∀ (x:List Int) (s':Int×Int) (E':Mem),Mem.le E E'->rEl 94 zs s0=(x,s')->0<=s'.1/\s'.1<=l->Lp Z2 6 Try.f93 [1,1,1,1,1,0] 3 Q (shL93_17 b l c s' v0 v1 v2 v3 v4 v5 v6 v7 v8 v9 v10 v11 v12 v13 v14 v15 v16 v18 v19 v20 v21 v22 v23 v24 v25 v26 v27 v28 v29 hi m (i+1) tot (layI ys (i*8) x) E')):
  Rnd Z2 6 Try.f93 [1,1,1,1,1,0] 3 Q (shL93_17 b l c s0 v0 v1 v2 v3 v4 v5 v6 v7 v8 v9 v10 v11 v12 v13 v14 v15 v16 v18 v19 v20 v21 v22 v23 v24 v25 v26 v27 v28 v29 hi m i tot ys E):=by
 refine sm_ (?_:bif decide ((NI i)<(NI m)) then req (0<=(NI i)/\(NI i)<(NI m)) ((129=129/\79=79/\1=1)/\∃ (zs:List Int),((81=81/\3=3/\Sx.Alike al2 (IntKind.i64=IntKind.i64))/\Bs E b l c zs/\l<=100000/\0<=s0.fst/\s0.fst<=(NI l))/\∃ (ys_1:List Int),(List.map (Value.int IntKind.i64) ys=List.map (Value.int IntKind.i64) ys_1/\0+Int.toNat (NI i)*8+8<=List.length ys_1/\(127=81->False)/\(127=129->False))/\True/\∀ (x:List Int) (s':Int×Int) (E':Mem),Mem.le E E'->RdE 94 zs (s0.fst,s0.snd) x s'->0<=s'.fst/\s'.fst<=(NI l)->Lp Z2 6 Try.f93 [1,1,1,1,1,0] 3 Q { fr:=some (SV.ifc 79 (SV.loc 0 0))::oc 1 17::oI hi::some (SV.clo 94 [] [SV.loc 2 0])::no32 (none::(oI (NI m)::oI (WI ((NI i)+1))::no8 (no2 []))),bx:=[(⟨81,.lst [L b l c,I s'.fst,I s'.snd],3,true⟩:Box),⟨40,.lst [SV.raw v0,SV.raw v1,SV.raw v2,SV.raw v3,SV.raw v4,SV.raw v5,SV.raw v6,SV.raw v7,SV.raw v8,SV.raw v9,SV.raw v10,SV.raw v11,SV.raw v12,SV.raw v13,SV.raw v14,SV.raw v15,SV.raw v16,SV.slc 3 0 m m,SV.raw v18,SV.raw v19,SV.raw v20,SV.raw v21,SV.raw v22,SV.raw v23,SV.raw v24,SV.raw v25,SV.raw v26,SV.raw v27,SV.raw v28,SV.raw v29],30,true⟩,⟨129,.lst [SV.ifc 79 (SV.loc 0 0)],1,true⟩,⟨127,.vals (List.map (Value.int IntKind.i64) (layI ys_1 (0+Int.toNat (NI i)*8) x)),tot,true⟩],E:=E':St }) else Q (SV.tup []) [⟨81,.lst [L b l c,I s0.fst,I s0.snd],3,true⟩,⟨40,.lst [SV.raw v0,SV.raw v1,SV.raw v2,SV.raw v3,SV.raw v4,SV.raw v5,SV.raw v6,SV.raw v7,SV.raw v8,SV.raw v9,SV.raw v10,SV.raw v11,SV.raw v12,SV.raw v13,SV.raw v14,SV.raw v15,SV.raw v16,SV.slc 3 0 m m,SV.raw v18,SV.raw v19,SV.raw v20,SV.raw v21,SV.raw v22,SV.raw v23,SV.raw v24,SV.raw v25,SV.raw v26,SV.raw v27,SV.raw v28,SV.raw v29],30,true⟩,⟨129,.lst [SV.ifc 79 (SV.loc 0 0)],1,true⟩,⟨127,.vals (List.map (Value.int IntKind.i64) ys),tot,true⟩] E)
 delta WI NI no2 no8 no32
 refine condC (fun g=>?_) (fun g=>?_)
 ·have g:i<m:=by simpa using g
  have w:IntKind.wrap .i64 ((i:Int)+1)=((i+1:Nat):Int):=by rw [wrap_i64 (by omega)];omega
  rw [w]
  refine req_intro (by omega) ⟨⟨rfl,rfl,rfl⟩,zs,⟨⟨rfl,rfl,alike rfl⟩,hB,hl,ha⟩,ys,⟨rfl,by rw [Int.toNat_natCast];omega,by decide,by decide⟩,trivial,fun x s' E' hE hq hs=>?_⟩
  rw [show 0+Int.toNat (i:Int)*8=i*8 by rw [Int.toNat_natCast];omega]
  exact Lp_re [some 0,some 1,some 2,some 3] (ih g x s' E' hE hq.eq hs) (wkH mr_)
 ·have g:i=m:=by simp at g;omega
  exact hQ _ _ _ (cloK_intro [some 0,some 1,some 2,some 3] (h g) (wkH mr_))
theorem rl93_17 (hB:Bs E b l c zs) (hl:l<=100000) (ha:0<=s0.1/\s0.1<=l) (hh:0<=hi/\hi<=60)
    (h:∀ (xs:List (List Int)) (s':Int×Int) (tot:Nat) (E':Mem),Mem.le E E'->RdL 94 hi zs s0 xs s'->0<=s'.1/\s'.1<=l->(∀ x∈xs,x.length=8)->KK (.tup []) [rBox b l c s',⟨40,.lst [.raw v0,.raw v1,.raw v2,.raw v3,.raw v4,.raw v5,.raw v6,.raw v7,.raw v8,.raw v9,.raw v10,.raw v11,.raw v12,.raw v13,.raw v14,.raw v15,.raw v16,.slc 3 0 xs.length xs.length,.raw v18,.raw v19,.raw v20,.raw v21,.raw v22,.raw v23,.raw v24,.raw v25,.raw v26,.raw v27,.raw v28,.raw v29],30,true⟩,⟨129,.lst [.ifc 79 (.loc 0 0)],1,true⟩,⟨127,.vals ((xs.flatten).map (.int .i64)),tot,true⟩] E') (hQ:∀ s bx' E',cloK 3 KK s bx' E'->Q s bx' E'):
    EntB Z2 6 Try.f93 [.ifc 79 (.loc 0 0),.loc 1 17,I hi,.clo 94 [] [.loc 2 0]] [rBox b l c s0,⟨40,.lst [.raw v0,.raw v1,.raw v2,.raw v3,.raw v4,.raw v5,.raw v6,.raw v7,.raw v8,.raw v9,.raw v10,.raw v11,.raw v12,.raw v13,.raw v14,.raw v15,.raw v16,L none 0 0,.raw v18,.raw v19,.raw v20,.raw v21,.raw v22,.raw v23,.raw v24,.raw v25,.raw v26,.raw v27,.raw v28,.raw v29],30,true⟩,⟨129,.lst [.ifc 79 (.loc 0 0)],1,true⟩] E Q:=by
  refine sm_ (?_:∃ (zs:List Int),((81=81/\3=3/\Sx.Alike al2 (IntKind.i64=IntKind.i64))/\Bs E b l c zs/\l<=100000/\0<=s0.fst/\s0.fst<=(NI l))/\IntKind.i64=IntKind.i64/\(0=3->False)/\∀ (v:Int) (s':Int×Int) (E':Mem),Mem.le E E'->Hyp (rnum zs (s0.fst,s0.snd) 0 hi=(v,s'))->0<=s'.fst/\s'.fst<=(NI l)->bif decide (v<(0:Int)) then Q (SV.tup []) [⟨81,.lst [L b l c,I s'.fst,I s'.snd],3,true⟩,⟨40,.lst [SV.raw v0,SV.raw v1,SV.raw v2,SV.raw v3,SV.raw v4,SV.raw v5,SV.raw v6,SV.raw v7,SV.raw v8,SV.raw v9,SV.raw v10,SV.raw v11,SV.raw v12,SV.raw v13,SV.raw v14,SV.raw v15,SV.raw v16,L none 0 0,SV.raw v18,SV.raw v19,SV.raw v20,SV.raw v21,SV.raw v22,SV.raw v23,SV.raw v24,SV.raw v25,SV.raw v26,SV.raw v27,SV.raw v28,SV.raw v29],30,true⟩,⟨129,.lst [SV.ifc 79 (SV.loc 0 0)],1,true⟩,⟨3,.lst [I v],1,true⟩] E' else bif bif false then true else decide (v>hi) then Q (SV.tup []) [⟨81,.lst [L b l c,I s'.fst,I s'.snd],3,true⟩,⟨40,.lst [SV.raw v0,SV.raw v1,SV.raw v2,SV.raw v3,SV.raw v4,SV.raw v5,SV.raw v6,SV.raw v7,SV.raw v8,SV.raw v9,SV.raw v10,SV.raw v11,SV.raw v12,SV.raw v13,SV.raw v14,SV.raw v15,SV.raw v16,L none 0 0,SV.raw v18,SV.raw v19,SV.raw v20,SV.raw v21,SV.raw v22,SV.raw v23,SV.raw v24,SV.raw v25,SV.raw v26,SV.raw v27,SV.raw v28,SV.raw v29],30,true⟩,⟨129,.lst [SV.ifc 79 (SV.loc 0 0)],1,true⟩,⟨3,.lst [I v],1,true⟩] E' else Sx.Alike al2 (bif (0:Int) !=v then req ((0:Int)<=v/\v<=v) (req (v*(64:Int)<=(140737488355328:Int)) (Lp Z2 6 Try.f93 [1,1,1,1,1,0] 3 Q { fr:=some (SV.ifc 79 (SV.loc 0 0))::oc 1 17::oI hi::some (SV.clo 94 [] [SV.loc 2 0])::none::none::none::none::oc 3 0::none::oc 1 17::oc 1 17::oL none 0 0::oI 0::some (SV.ifc 79 (SV.loc 0 0))::oI hi::some (SV.tup [])::oI v::oB (decide (v<(0:Int)))::oB false::oI v::oI hi::oB (decide (v>hi))::oB (bif false then true else decide (v>hi))::oc 1 17::oc 1 17::oL none 0 0::oI 0::oI v::oB ((0:Int) !=v)::oc 1 17::oI v::os 4 0 (Int.toNat v) (Int.toNat v)::oc 1 17::oc 1 17::oc 1 17::os 4 0 (Int.toNat v) (Int.toNat v)::oI (NI (Int.toNat v))::oI 0::no8 (no2 []),bx:=[(⟨81,.lst [L b l c,I s'.fst,I s'.snd],3,true⟩:Box),⟨40,.lst [SV.raw v0,SV.raw v1,SV.raw v2,SV.raw v3,SV.raw v4,SV.raw v5,SV.raw v6,SV.raw v7,SV.raw v8,SV.raw v9,SV.raw v10,SV.raw v11,SV.raw v12,SV.raw v13,SV.raw v14,SV.raw v15,SV.raw v16,SV.slc 4 0 (Int.toNat v) (Int.toNat v),SV.raw v18,SV.raw v19,SV.raw v20,SV.raw v21,SV.raw v22,SV.raw v23,SV.raw v24,SV.raw v25,SV.raw v26,SV.raw v27,SV.raw v28,SV.raw v29],30,true⟩,⟨129,.lst [SV.ifc 79 (SV.loc 0 0)],1,true⟩,⟨3,.lst [I v],1,true⟩,⟨127,.vals (zerosV [Value.int IntKind.i64 0,Value.int IntKind.i64 0,Value.int IntKind.i64 0,Value.int IntKind.i64 0,Value.int IntKind.i64 0,Value.int IntKind.i64 0,Value.int IntKind.i64 0,Value.int IntKind.i64 0] (Int.toNat v)),Int.toNat v*8,true⟩],E:=E':St })) else Lp Z2 6 Try.f93 [1,1,1,1,1,0] 3 Q { fr:=some (SV.ifc 79 (SV.loc 0 0))::oc 1 17::oI hi::some (SV.clo 94 [] [SV.loc 2 0])::none::none::none::none::oc 3 0::none::oc 1 17::oc 1 17::oL none 0 0::oI 0::some (SV.ifc 79 (SV.loc 0 0))::oI hi::some (SV.tup [])::oI v::oB (decide (v<(0:Int)))::oB false::oI v::oI hi::oB (decide (v>hi))::oB (bif false then true else decide (v>hi))::oc 1 17::oc 1 17::oL none 0 0::oI 0::oI v::oB ((0:Int) !=v)::none::none::none::none::oc 1 17::oc 1 17::oL none 0 0::oI 0::oI 0::no8 (no2 []),bx:=[(⟨81,.lst [L b l c,I s'.fst,I s'.snd],3,true⟩:Box),⟨40,.lst [SV.raw v0,SV.raw v1,SV.raw v2,SV.raw v3,SV.raw v4,SV.raw v5,SV.raw v6,SV.raw v7,SV.raw v8,SV.raw v9,SV.raw v10,SV.raw v11,SV.raw v12,SV.raw v13,SV.raw v14,SV.raw v15,SV.raw v16,L none 0 0,SV.raw v18,SV.raw v19,SV.raw v20,SV.raw v21,SV.raw v22,SV.raw v23,SV.raw v24,SV.raw v25,SV.raw v26,SV.raw v27,SV.raw v28,SV.raw v29],30,true⟩,⟨129,.lst [SV.ifc 79 (SV.loc 0 0)],1,true⟩,⟨3,.lst [I v],1,true⟩],E:=E':St }))
  delta NI no2 no8
  refine ⟨zs,⟨⟨rfl,rfl,alike rfl⟩,hB,hl,ha⟩,rfl,by decide,fun v s1 E1 e1 q1 w1=>?_⟩
  have q1:rnum zs s0 0 hi=(v,s1):=q1
  have r1:=rnum_range q1 hh.1
  have key:∀ tot:Nat,Lp Z2 6 Try.f93 [1,1,1,1,1,0] 3 Q (shL93_17 b l c s1 v0 v1 v2 v3 v4 v5 v6 v7 v8 v9 v10 v11 v12 v13 v14 v15 v16 v18 v19 v20 v21 v22 v23 v24 v25 v26 v27 v28 v29 hi v.toNat 0 tot (List.replicate (v.toNat*8) 0) E1):=by
    intro tot
    have:=Lp_ind okZ2 (n:=6) (fn:=Try.f93) (p:=[1,1,1,1,1,0]) (n0:=3) (K:=Q) (fun z:{z:Nat×List (List Int)×(Int×Int)×Mem//z.1<=v.toNat/\rRs 94 zs z.1 s1=(z.2.1,z.2.2.1)/\z.2.1.length=z.1/\(∀ x∈z.2.1,x.length=8)/\Mem.le E1 z.2.2.2/\(0<=z.2.2.1.1/\z.2.2.1.1<=l)}=>shL93_17 b l c z.1.2.2.1 v0 v1 v2 v3 v4 v5 v6 v7 v8 v9 v10 v11 v12 v13 v14 v15 v16 v18 v19 v20 v21 v22 v23 v24 v25 v26 v27 v28 v29 hi v.toNat z.1.1 tot (z.1.2.1.flatten++List.replicate ((v.toNat-z.1.1)*8) 0) z.1.2.2.2) (fun z=>v.toNat-z.1.1)
      (fun z ih=>by
        obtain ⟨⟨i,xs,s2,E2⟩,z1,z2,z3,z4,z5,z6⟩:=z
        have z1:i<=v.toNat:=z1
        have z3:xs.length=i:=z3
        have fl:=flat_len z4
        have fl:xs.flatten.length=xs.length*8:=fl
        have hd:(v.toNat-i)*8=(if i<v.toNat then 8 else 0)+(v.toNat-(i+1))*8:=by split<;>omega
        show Rnd Z2 6 Try.f93 [1,1,1,1,1,0] 3 Q (shL93_17 b l c s2 v0 v1 v2 v3 v4 v5 v6 v7 v8 v9 v10 v11 v12 v13 v14 v15 v16 v18 v19 v20 v21 v22 v23 v24 v25 v26 v27 v28 v29 hi v.toNat i tot (xs.flatten++List.replicate ((v.toNat-i)*8) 0) E2)
        refine rn93_17 (hB.mono (mt_ e1 z5)) hl z6 z1 (by omega) (by rw [List.length_append,List.length_replicate];omega) (fun e=>?_) hQ (fun g x s' E' hE hq hs=>?_)
        · have e:i=v.toNat:=e
          subst e
          have:=h xs s2 tot E2 (mt_ e1 z5) ⟨by unfold rLs;rw [q1];exact z2⟩ z6 z4
          rw [show (v.toNat-v.toNat)*8=0 by omega,show List.replicate 0 (0:Int)=[] from rfl,List.append_nil]
          rw [z3] at this
          exact this
        · have hx:=rEl94_len hq
          have:=ih ⟨⟨i+1,xs++[x],s',E'⟩,g,rRs_succ z2 hq,by show (xs++[x]).length=i+1;simp [z3],(fun y hy=>by rcases List.mem_append.1 hy with h1|h1;exact z4 y h1;rw [List.mem_singleton.1 h1];exact hx),mt_ z5 hE,hs⟩ (by show v.toNat-(i+1)<v.toNat-i;omega)
          rw [hd,if_pos g,show i*8=xs.flatten.length by omega,layI_next hx]
          have e2:(xs++[x]).flatten=xs.flatten++x:=by simp
          have this:Lp Z2 6 Try.f93 [1,1,1,1,1,0] 3 Q (shL93_17 b l c s' v0 v1 v2 v3 v4 v5 v6 v7 v8 v9 v10 v11 v12 v13 v14 v15 v16 v18 v19 v20 v21 v22 v23 v24 v25 v26 v27 v28 v29 hi v.toNat (i+1) tot ((xs++[x]).flatten++List.replicate ((v.toNat-(i+1))*8) 0) E'):=this
          rw [e2] at this
          exact this) ⟨⟨0,[],s1,E1⟩,Nat.zero_le _,rfl,rfl,(fun x hx=>by cases hx),mr_,w1⟩
    exact this
  refine condC (fun g=>absurd g (by simp;omega)) (fun _=>condC (fun g=>absurd g (by simp;omega)) (fun _=>alike (condC (fun g=>?_) (fun g=>?_))))
  · refine req_intro (by omega) (req_intro (by omega) ?_)
    rw [zeros_int (q:=.i64) (k:=8) (z:=[.int .i64 0,.int .i64 0,.int .i64 0,.int .i64 0,.int .i64 0,.int .i64 0,.int .i64 0,.int .i64 0]) rfl]
    exact Lp_re [some 0,some 1,some 2,some 4] (key _) (wkH mr_)
  · have g : v = 0 := by have g:0=v:=by simpa using g
                         exact g.symm
    subst g
    exact Lp_re [some 0,some 1,some 2,none] (key 0) (wkH mr_)
theorem rEl68_len (h:rEl 68 zs s=(x,s')):x.length=1:=rI_len (its:=its68) h
def shL67_18 (b:Option Addr) (l c:Nat) (s0:Int×Int) (v0 v1 v2 v3 v4 v5 v6 v7 v8 v9 v10 v11 v12 v13 v14 v15 v16 v17 v19 v20 v21 v22 v23 v24 v25 v26 v27 v28 v29:Value) (hi:Int) (m i tot:Nat) (ys:List Int) (E:Mem):St:=⟨[some (.ifc 79 (.loc 0 0)),oc 1 18,oI hi,some (.clo 68 [] [.loc 2 0]),none,none,none,none,none,none,none,none,none,none,none,none,none,none,none,none,none,none,none,none,none,none,none,none,none,none,none,none,none,none,none,none,none,oI (m:Nat),oI (i:Nat)]++List.replicate 10 none,[rBox b l c s0,⟨40,.lst [.raw v0,.raw v1,.raw v2,.raw v3,.raw v4,.raw v5,.raw v6,.raw v7,.raw v8,.raw v9,.raw v10,.raw v11,.raw v12,.raw v13,.raw v14,.raw v15,.raw v16,.raw v17,.slc 3 0 m m,.raw v19,.raw v20,.raw v21,.raw v22,.raw v23,.raw v24,.raw v25,.raw v26,.raw v27,.raw v28,.raw v29],30,true⟩,⟨129,.lst [.ifc 79 (.loc 0 0)],1,true⟩,⟨3,.vals ((ys).map (.int .i64)),tot,true⟩],E⟩
theorem rn67_18 (hB:Bs E b l c zs) (hl:l<=100000) (ha:0<=s0.1/\s0.1<=l) (hi':i<=m) (hm:m<=60) (hy:ys.length=m*1)
  (h:i=m->KK (.tup []) [rBox b l c s0,⟨40,.lst [.raw v0,.raw v1,.raw v2,.raw v3,.raw v4,.raw v5,.raw v6,.raw v7,.raw v8,.raw v9,.raw v10,.raw v11,.raw v12,.raw v13,.raw v14,.raw v15,.raw v16,.raw v17,.slc 3 0 m m,.raw v19,.raw v20,.raw v21,.raw v22,.raw v23,.raw v24,.raw v25,.raw v26,.raw v27,.raw v28,.raw v29],30,true⟩,⟨129,.lst [.ifc 79 (.loc 0 0)],1,true⟩,⟨3,.vals ((ys).map (.int .i64)),tot,true⟩] E) (hQ:∀ s bx' E',cloK 3 KK s bx' E'->Q s bx' E')
  (ih:i<m->∀ (x:List Int) (s':Int×Int) (E':Mem),Mem.le E E'->rEl 68 zs s0=(x,s')->0<=s'.1/\s'.1<=l->Lp Z2 6 Try.f67 [1,1,1,1,1,0] 3 Q (shL67_18 b l c s' v0 v1 v2 v3 v4 v5 v6 v7 v8 v9 v10 v11 v12 v13 v14 v15 v16 v17 v19 v20 v21 v22 v23 v24 v25 v26 v27 v28 v29 hi m (i+1) tot (layI ys (i*1) x) E')):
  Rnd Z2 6 Try.f67 [1,1,1,1,1,0] 3 Q (shL67_18 b l c s0 v0 v1 v2 v3 v4 v5 v6 v7 v8 v9 v10 v11 v12 v13 v14 v15 v16 v17 v19 v20 v21 v22 v23 v24 v25 v26 v27 v28 v29 hi m i tot ys E):=by
 refine sm_ (?_:bif decide ((NI i)<(NI m)) then req (0<=(NI i)/\(NI i)<(NI m)) ((129=129/\79=79/\1=1)/\∃ (zs:List Int),((81=81/\3=3/\Sx.Alike al2 (IntKind.i64=IntKind.i64))/\Bs E b l c zs/\l<=100000/\0<=s0.fst/\s0.fst<=(NI l))/\∃ (ys_1:List Int),(List.map (Value.int IntKind.i64) ys=List.map (Value.int IntKind.i64) ys_1/\0+Int.toNat (NI i)*1+1<=List.length ys_1/\(3=81->False)/\(3=129->False))/\True/\∀ (x:List Int) (s':Int×Int) (E':Mem),Mem.le E E'->RdE 68 zs (s0.fst,s0.snd) x s'->0<=s'.fst/\s'.fst<=(NI l)->Lp Z2 6 Try.f67 [1,1,1,1,1,0] 3 Q { fr:=some (SV.ifc 79 (SV.loc 0 0))::oc 1 18::oI hi::some (SV.clo 68 [] [SV.loc 2 0])::no32 (none::(oI (NI m)::oI (WI ((NI i)+1))::no8 (no2 []))),bx:=[(⟨81,.lst [L b l c,I s'.fst,I s'.snd],3,true⟩:Box),⟨40,.lst [SV.raw v0,SV.raw v1,SV.raw v2,SV.raw v3,SV.raw v4,SV.raw v5,SV.raw v6,SV.raw v7,SV.raw v8,SV.raw v9,SV.raw v10,SV.raw v11,SV.raw v12,SV.raw v13,SV.raw v14,SV.raw v15,SV.raw v16,SV.raw v17,SV.slc 3 0 m m,SV.raw v19,SV.raw v20,SV.raw v21,SV.raw v22,SV.raw v23,SV.raw v24,SV.raw v25,SV.raw v26,SV.raw v27,SV.raw v28,SV.raw v29],30,true⟩,⟨129,.lst [SV.ifc 79 (SV.loc 0 0)],1,true⟩,⟨3,.vals (List.map (Value.int IntKind.i64) (layI ys_1 (0+Int.toNat (NI i)*1) x)),tot,true⟩],E:=E':St }) else Q (SV.tup []) [⟨81,.lst [L b l c,I s0.fst,I s0.snd],3,true⟩,⟨40,.lst [SV.raw v0,SV.raw v1,SV.raw v2,SV.raw v3,SV.raw v4,SV.raw v5,SV.raw v6,SV.raw v7,SV.raw v8,SV.raw v9,SV.raw v10,SV.raw v11,SV.raw v12,SV.raw v13,SV.raw v14,SV.raw v15,SV.raw v16,SV.raw v17,SV.slc 3 0 m m,SV.raw v19,SV.raw v20,SV.raw v21,SV.raw v22,SV.raw v23,SV.raw v24,SV.raw v25,SV.raw v26,SV.raw v27,SV.raw v28,SV.raw v29],30,true⟩,⟨129,.lst [SV.ifc 79 (SV.loc 0 0)],1,true⟩,⟨3,.vals (List.map (Value.int IntKind.i64) ys),tot,true⟩] E)
 delta WI NI no2 no8 no32
 refine condC (fun g=>?_) (fun g=>?_)
 ·have g:i<m:=by simpa using g
  have w:IntKind.wrap .i64 ((i:Int)+1)=((i+1:Nat):Int):=by rw [wrap_i64 (by omega)];omega
  rw [w]
  refine req_intro (by omega) ⟨⟨rfl,rfl,rfl⟩,zs,⟨⟨rfl,rfl,alike rfl⟩,hB,hl,ha⟩,ys,⟨rfl,by rw [Int.toNat_natCast];omega,by decide,by decide⟩,trivial,fun x s' E' hE hq hs=>?_⟩
  rw [show 0+Int.toNat (i:Int)*1=i*1 by rw [Int.toNat_natCast];omega]
  exact Lp_re [some 0,some 1,some 2,some 3] (ih g x s' E' hE hq.eq hs) (wkH mr_)
 ·have g:i=m:=by simp at g;omega
  exact hQ _ _ _ (cloK_intro [some 0,some 1,some 2,some 3] (h g) (wkH mr_))
theorem rl67_18 (hB:Bs E b l c zs) (hl:l<=100000) (ha:0<=s0.1/\s0.1<=l) (hh:0<=hi/\hi<=60)
    (h:∀ (xs:List (List Int)) (s':Int×Int) (tot:Nat) (E':Mem),Mem.le E E'->RdL 68 hi zs s0 xs s'->0<=s'.1/\s'.1<=l->(∀ x∈xs,x.length=1)->KK (.tup []) [rBox b l c s',⟨40,.lst [.raw v0,.raw v1,.raw v2,.raw v3,.raw v4,.raw v5,.raw v6,.raw v7,.raw v8,.raw v9,.raw v10,.raw v11,.raw v12,.raw v13,.raw v14,.raw v15,.raw v16,.raw v17,.slc 3 0 xs.length xs.length,.raw v19,.raw v20,.raw v21,.raw v22,.raw v23,.raw v24,.raw v25,.raw v26,.raw v27,.raw v28,.raw v29],30,true⟩,⟨129,.lst [.ifc 79 (.loc 0 0)],1,true⟩,⟨3,.vals ((xs.flatten).map (.int .i64)),tot,true⟩] E') (hQ:∀ s bx' E',cloK 3 KK s bx' E'->Q s bx' E'):
    EntB Z2 6 Try.f67 [.ifc 79 (.loc 0 0),.loc 1 18,I hi,.clo 68 [] [.loc 2 0]] [rBox b l c s0,⟨40,.lst [.raw v0,.raw v1,.raw v2,.raw v3,.raw v4,.raw v5,.raw v6,.raw v7,.raw v8,.raw v9,.raw v10,.raw v11,.raw v12,.raw v13,.raw v14,.raw v15,.raw v16,.raw v17,L none 0 0,.raw v19,.raw v20,.raw v21,.raw v22,.raw v23,.raw v24,.raw v25,.raw v26,.raw v27,.raw v28,.raw v29],30,true⟩,⟨129,.lst [.ifc 79 (.loc 0 0)],1,true⟩] E Q:=by
  refine sm_ (?_:∃ (zs:List Int),((81=81/\3=3/\Sx.Alike al2 (IntKind.i64=IntKind.i64))/\Bs E b l c zs/\l<=100000/\0<=s0.fst/\s0.fst<=(NI l))/\IntKind.i64=IntKind.i64/\(0=3->False)/\∀ (v:Int) (s':Int×Int) (E':Mem),Mem.le E E'->Hyp (rnum zs (s0.fst,s0.snd) 0 hi=(v,s'))->0<=s'.fst/\s'.fst<=(NI l)->bif decide (v<(0:Int)) then Q (SV.tup []) [⟨81,.lst [L b l c,I s'.fst,I s'.snd],3,true⟩,⟨40,.lst [SV.raw v0,SV.raw v1,SV.raw v2,SV.raw v3,SV.raw v4,SV.raw v5,SV.raw v6,SV.raw v7,SV.raw v8,SV.raw v9,SV.raw v10,SV.raw v11,SV.raw v12,SV.raw v13,SV.raw v14,SV.raw v15,SV.raw v16,SV.raw v17,L none 0 0,SV.raw v19,SV.raw v20,SV.raw v21,SV.raw v22,SV.raw v23,SV.raw v24,SV.raw v25,SV.raw v26,SV.raw v27,SV.raw v28,SV.raw v29],30,true⟩,⟨129,.lst [SV.ifc 79 (SV.loc 0 0)],1,true⟩,⟨3,.lst [I v],1,true⟩] E' else bif bif false then true else decide (v>hi) then Q (SV.tup []) [⟨81,.lst [L b l c,I s'.fst,I s'.snd],3,true⟩,⟨40,.lst [SV.raw v0,SV.raw v1,SV.raw v2,SV.raw v3,SV.raw v4,SV.raw v5,SV.raw v6,SV.raw v7,SV.raw v8,SV.raw v9,SV.raw v10,SV.raw v11,SV.raw v12,SV.raw v13,SV.raw v14,SV.raw v15,SV.raw v16,SV.raw v17,L none 0 0,SV.raw v19,SV.raw v20,SV.raw v21,SV.raw v22,SV.raw v23,SV.raw v24,SV.raw v25,SV.raw v26,SV.raw v27,SV.raw v28,SV.raw v29],30,true⟩,⟨129,.lst [SV.ifc 79 (SV.loc 0 0)],1,true⟩,⟨3,.lst [I v],1,true⟩] E' else Sx.Alike al2 (bif (0:Int) !=v then req ((0:Int)<=v/\v<=v) (req (v*(8:Int)<=(140737488355328:Int)) (Lp Z2 6 Try.f67 [1,1,1,1,1,0] 3 Q { fr:=some (SV.ifc 79 (SV.loc 0 0))::oc 1 18::oI hi::some (SV.clo 68 [] [SV.loc 2 0])::none::none::none::none::oc 3 0::none::oc 1 18::oc 1 18::oL none 0 0::oI 0::some (SV.ifc 79 (SV.loc 0 0))::oI hi::some (SV.tup [])::oI v::oB (decide (v<(0:Int)))::oB false::oI v::oI hi::oB (decide (v>hi))::oB (bif false then true else decide (v>hi))::oc 1 18::oc 1 18::oL none 0 0::oI 0::oI v::oB ((0:Int) !=v)::oc 1 18::oI v::os 4 0 (Int.toNat v) (Int.toNat v)::oc 1 18::oc 1 18::oc 1 18::os 4 0 (Int.toNat v) (Int.toNat v)::oI (NI (Int.toNat v))::oI 0::no8 (no2 []),bx:=[(⟨81,.lst [L b l c,I s'.fst,I s'.snd],3,true⟩:Box),⟨40,.lst [SV.raw v0,SV.raw v1,SV.raw v2,SV.raw v3,SV.raw v4,SV.raw v5,SV.raw v6,SV.raw v7,SV.raw v8,SV.raw v9,SV.raw v10,SV.raw v11,SV.raw v12,SV.raw v13,SV.raw v14,SV.raw v15,SV.raw v16,SV.raw v17,SV.slc 4 0 (Int.toNat v) (Int.toNat v),SV.raw v19,SV.raw v20,SV.raw v21,SV.raw v22,SV.raw v23,SV.raw v24,SV.raw v25,SV.raw v26,SV.raw v27,SV.raw v28,SV.raw v29],30,true⟩,⟨129,.lst [SV.ifc 79 (SV.loc 0 0)],1,true⟩,⟨3,.lst [I v],1,true⟩,⟨3,.vals (zerosV [Value.int IntKind.i64 0] (Int.toNat v)),Int.toNat v*1,true⟩],E:=E':St })) else Lp Z2 6 Try.f67 [1,1,1,1,1,0] 3 Q { fr:=some (SV.ifc 79 (SV.loc 0 0))::oc 1 18::oI hi::some (SV.clo 68 [] [SV.loc 2 0])::none::none::none::none::oc 3 0::none::oc 1 18::oc 1 18::oL none 0 0::oI 0::some (SV.ifc 79 (SV.loc 0 0))::oI hi::some (SV.tup [])::oI v::oB (decide (v<(0:Int)))::oB false::oI v::oI hi::oB (decide (v>hi))::oB (bif false then true else decide (v>hi))::oc 1 18::oc 1 18::oL none 0 0::oI 0::oI v::oB ((0:Int) !=v)::none::none::none::none::oc 1 18::oc 1 18::oL none 0 0::oI 0::oI 0::no8 (no2 []),bx:=[(⟨81,.lst [L b l c,I s'.fst,I s'.snd],3,true⟩:Box),⟨40,.lst [SV.raw v0,SV.raw v1,SV.raw v2,SV.raw v3,SV.raw v4,SV.raw v5,SV.raw v6,SV.raw v7,SV.raw v8,SV.raw v9,SV.raw v10,SV.raw v11,SV.raw v12,SV.raw v13,SV.raw v14,SV.raw v15,SV.raw v16,SV.raw v17,L none 0 0,SV.raw v19,SV.raw v20,SV.raw v21,SV.raw v22,SV.raw v23,SV.raw v24,SV.raw v25,SV.raw v26,SV.raw v27,SV.raw v28,SV.raw v29],30,true⟩,⟨129,.lst [SV.ifc 79 (SV.loc 0 0)],1,true⟩,⟨3,.lst [I v],1,true⟩],E:=E':St }))
  delta NI no2 no8
  refine ⟨zs,⟨⟨rfl,rfl,alike rfl⟩,hB,hl,ha⟩,rfl,by decide,fun v s1 E1 e1 q1 w1=>?_⟩
  have q1:rnum zs s0 0 hi=(v,s1):=q1
  have r1:=rnum_range q1 hh.1
  have key:∀ tot:Nat,Lp Z2 6 Try.f67 [1,1,1,1,1,0] 3 Q (shL67_18 b l c s1 v0 v1 v2 v3 v4 v5 v6 v7 v8 v9 v10 v11 v12 v13 v14 v15 v16 v17 v19 v20 v21 v22 v23 v24 v25 v26 v27 v28 v29 hi v.toNat 0 tot (List.replicate (v.toNat*1) 0) E1):=by
    intro tot
    have:=Lp_ind okZ2 (n:=6) (fn:=Try.f67) (p:=[1,1,1,1,1,0]) (n0:=3) (K:=Q) (fun z:{z:Nat×List (List Int)×(Int×Int)×Mem//z.1<=v.toNat/\rRs 68 zs z.1 s1=(z.2.1,z.2.2.1)/\z.2.1.length=z.1/\(∀ x∈z.2.1,x.length=1)/\Mem.le E1 z.2.2.2/\(0<=z.2.2.1.1/\z.2.2.1.1<=l)}=>shL67_18 b l c z.1.2.2.1 v0 v1 v2 v3 v4 v5 v6 v7 v8 v9 v10 v11 v12 v13 v14 v15 v16 v17 v19 v20 v21 v22 v23 v24 v25 v26 v27 v28 v29 hi v.toNat z.1.1 tot (z.1.2.1.flatten++List.replicate ((v.toNat-z.1.1)*1) 0) z.1.2.2.2) (fun z=>v.toNat-z.1.1)
      (fun z ih=>by
        obtain ⟨⟨i,xs,s2,E2⟩,z1,z2,z3,z4,z5,z6⟩:=z
        have z1:i<=v.toNat:=z1
        have z3:xs.length=i:=z3
        have fl:=flat_len z4
        have fl:xs.flatten.length=xs.length*1:=fl
        have hd:(v.toNat-i)*1=(if i<v.toNat then 1 else 0)+(v.toNat-(i+1))*1:=by split<;>omega
        show Rnd Z2 6 Try.f67 [1,1,1,1,1,0] 3 Q (shL67_18 b l c s2 v0 v1 v2 v3 v4 v5 v6 v7 v8 v9 v10 v11 v12 v13 v14 v15 v16 v17 v19 v20 v21 v22 v23 v24 v25 v26 v27 v28 v29 hi v.toNat i tot (xs.flatten++List.replicate ((v.toNat-i)*1) 0) E2)
        refine rn67_18 (hB.mono (mt_ e1 z5)) hl z6 z1 (by omega) (by rw [List.length_append,List.length_replicate];omega) (fun e=>?_) hQ (fun g x s' E' hE hq hs=>?_)
        · have e:i=v.toNat:=e
          subst e
          have:=h xs s2 tot E2 (mt_ e1 z5) ⟨by unfold rLs;rw [q1];exact z2⟩ z6 z4
          rw [show (v.toNat-v.toNat)*1=0 by omega,show List.replicate 0 (0:Int)=[] from rfl,List.append_nil]
          rw [z3] at this
          exact this
        · have hx:=rEl68_len hq
          have:=ih ⟨⟨i+1,xs++[x],s',E'⟩,g,rRs_succ z2 hq,by show (xs++[x]).length=i+1;simp [z3],(fun y hy=>by rcases List.mem_append.1 hy with h1|h1;exact z4 y h1;rw [List.mem_singleton.1 h1];exact hx),mt_ z5 hE,hs⟩ (by show v.toNat-(i+1)<v.toNat-i;omega)
          rw [hd,if_pos g,show i*1=xs.flatten.length by omega,layI_next hx]
          have e2:(xs++[x]).flatten=xs.flatten++x:=by simp
          have this:Lp Z2 6 Try.f67 [1,1,1,1,1,0] 3 Q (shL67_18 b l c s' v0 v1 v2 v3 v4 v5 v6 v7 v8 v9 v10 v11 v12 v13 v14 v15 v16 v17 v19 v20 v21 v22 v23 v24 v25 v26 v27 v28 v29 hi v.toNat (i+1) tot ((xs++[x]).flatten++List.replicate ((v.toNat-(i+1))*1) 0) E'):=this
          rw [e2] at this
          exact this) ⟨⟨0,[],s1,E1⟩,Nat.zero_le _,rfl,rfl,(fun x hx=>by cases hx),mr_,w1⟩
    exact this
  refine condC (fun g=>absurd g (by simp;omega)) (fun _=>condC (fun g=>absurd g (by simp;omega)) (fun _=>alike (condC (fun g=>?_) (fun g=>?_))))
  · refine req_intro (by omega) (req_intro (by omega) ?_)
    rw [zeros_int (q:=.i64) (k:=1) (z:=[.int .i64 0]) rfl]
    exact Lp_re [some 0,some 1,some 2,some 4] (key _) (wkH mr_)
  · have g : v = 0 := by have g:0=v:=by simpa using g
                         exact g.symm
    subst g
    exact Lp_re [some 0,some 1,some 2,none] (key 0) (wkH mr_)
theorem rEl96_len (h:rEl 96 zs s=(x,s')):x.length=1:=rD_len h
def shL95_28 (b:Option Addr) (l c:Nat) (s0:Int×Int) (v0 v1 v2 v3 v4 v5 v6 v7 v8 v9 v10 v11 v12 v13 v14 v15 v16 v17 v18 v19 v20 v21 v22 v23 v24 v25 v26 v27 v29:Value) (hi:Int) (m i tot:Nat) (ys:List Int) (E:Mem):St:=⟨[some (.ifc 79 (.loc 0 0)),oc 1 28,oI hi,some (.clo 96 [] [.loc 2 0]),none,none,none,none,none,none,none,none,none,none,none,none,none,none,none,none,none,none,none,none,none,none,none,none,none,none,none,none,none,none,none,none,none,oI (m:Nat),oI (i:Nat)]++List.replicate 10 none,[rBox b l c s0,⟨40,.lst [.raw v0,.raw v1,.raw v2,.raw v3,.raw v4,.raw v5,.raw v6,.raw v7,.raw v8,.raw v9,.raw v10,.raw v11,.raw v12,.raw v13,.raw v14,.raw v15,.raw v16,.raw v17,.raw v18,.raw v19,.raw v20,.raw v21,.raw v22,.raw v23,.raw v24,.raw v25,.raw v26,.raw v27,.slc 3 0 m m,.raw v29],30,true⟩,⟨129,.lst [.ifc 79 (.loc 0 0)],1,true⟩,⟨32,.vals ((ys).map (.int .u64)),tot,true⟩],E⟩
theorem rn95_28 (hB:Bs E b l c zs) (hl:l<=100000) (ha:0<=s0.1/\s0.1<=l) (hi':i<=m) (hm:m<=60) (hy:ys.length=m*1) (hz:i<m->ys.getD (0+i*1) 0=0)
  (h:i=m->KK (.tup []) [rBox b l c s0,⟨40,.lst [.raw v0,.raw v1,.raw v2,.raw v3,.raw v4,.raw v5,.raw v6,.raw v7,.raw v8,.raw v9,.raw v10,.raw v11,.raw v12,.raw v13,.raw v14,.raw v15,.raw v16,.raw v17,.raw v18,.raw v19,.raw v20,.raw v21,.raw v22,.raw v23,.raw v24,.raw v25,.raw v26,.raw v27,.slc 3 0 m m,.raw v29],30,true⟩,⟨129,.lst [.ifc 79 (.loc 0 0)],1,true⟩,⟨32,.vals ((ys).map (.int .u64)),tot,true⟩] E) (hQ:∀ s bx' E',cloK 3 KK s bx' E'->Q s bx' E')
  (ih:i<m->∀ (x:List Int) (s':Int×Int) (E':Mem),Mem.le E E'->rEl 96 zs s0=(x,s')->0<=s'.1/\s'.1<=l->Lp Z2 6 Try.f95 [1,1,1,1,1,0] 3 Q (shL95_28 b l c s' v0 v1 v2 v3 v4 v5 v6 v7 v8 v9 v10 v11 v12 v13 v14 v15 v16 v17 v18 v19 v20 v21 v22 v23 v24 v25 v26 v27 v29 hi m (i+1) tot (layI ys (i*1) x) E')):
  Rnd Z2 6 Try.f95 [1,1,1,1,1,0] 3 Q (shL95_28 b l c s0 v0 v1 v2 v3 v4 v5 v6 v7 v8 v9 v10 v11 v12 v13 v14 v15 v16 v17 v18 v19 v20 v21 v22 v23 v24 v25 v26 v27 v29 hi m i tot ys E):=by
 refine sm_ (?_:bif decide ((NI i)<(NI m)) then req (0<=(NI i)/\(NI i)<(NI m)) ((129=129/\79=79/\1=1)/\∃ (zs:List Int),((81=81/\3=3/\Sx.Alike al2 (IntKind.i64=IntKind.i64))/\Bs E b l c zs/\l<=100000/\0<=s0.fst/\s0.fst<=(NI l))/\∃ (ys_1:List Int),(List.map (Value.int IntKind.u64) ys=List.map (Value.int IntKind.u64) ys_1/\0+Int.toNat (NI i)*1+1<=List.length ys_1/\(32=81->False)/\(32=129->False))/\(True/\List.getD ys_1 (0+Int.toNat (NI i)*1) (0:Int)=(0:Int))/\∀ (x:List Int) (s':Int×Int) (E':Mem),Mem.le E E'->RdE 96 zs (s0.fst,s0.snd) x s'->0<=s'.fst/\s'.fst<=(NI l)->Lp Z2 6 Try.f95 [1,1,1,1,1,0] 3 Q { fr:=some (SV.ifc 79 (SV.loc 0 0))::oc 1 28::oI hi::some (SV.clo 96 [] [SV.loc 2 0])::no32 (none::(oI (NI m)::oI (WI ((NI i)+1))::no8 (no2 []))),bx:=[(⟨81,.lst [L b l c,I s'.fst,I s'.snd],3,true⟩:Box),⟨40,.lst [SV.raw v0,SV.raw v1,SV.raw v2,SV.raw v3,SV.raw v4,SV.raw v5,SV.raw v6,SV.raw v7,SV.raw v8,SV.raw v9,SV.raw v10,SV.raw v11,SV.raw v12,SV.raw v13,SV.raw v14,SV.raw v15,SV.raw v16,SV.raw v17,SV.raw v18,SV.raw v19,SV.raw v20,SV.raw v21,SV.raw v22,SV.raw v23,SV.raw v24,SV.raw v25,SV.raw v26,SV.raw v27,SV.slc 3 0 m m,SV.raw v29],30,true⟩,⟨129,.lst [SV.ifc 79 (SV.loc 0 0)],1,true⟩,⟨32,.vals (List.map (Value.int IntKind.u64) (layI ys_1 (0+Int.toNat (NI i)*1) x)),tot,true⟩],E:=E':St }) else Q (SV.tup []) [⟨81,.lst [L b l c,I s0.fst,I s0.snd],3,true⟩,⟨40,.lst [SV.raw v0,SV.raw v1,SV.raw v2,SV.raw v3,SV.raw v4,SV.raw v5,SV.raw v6,SV.raw v7,SV.raw v8,SV.raw v9,SV.raw v10,SV.raw v11,SV.raw v12,SV.raw v13,SV.raw v14,SV.raw v15,SV.raw v16,SV.raw v17,SV.raw v18,SV.raw v19,SV.raw v20,SV.raw v21,SV.raw v22,SV.raw v23,SV.raw v24,SV.raw v25,SV.raw v26,SV.raw v27,SV.slc 3 0 m m,SV.raw v29],30,true⟩,⟨129,.lst [SV.ifc 79 (SV.loc 0 0)],1,true⟩,⟨32,.vals (List.map (Value.int IntKind.u64) ys),tot,true⟩] E)
 delta WI NI no2 no8 no32
 refine condC (fun g=>?_) (fun g=>?_)
 ·have g:i<m:=by simpa using g
  have w:IntKind.wrap .i64 ((i:Int)+1)=((i+1:Nat):Int):=by rw [wrap_i64 (by omega)];omega
  rw [w]
  refine req_intro (by omega) ⟨⟨rfl,rfl,rfl⟩,zs,⟨⟨rfl,rfl,alike rfl⟩,hB,hl,ha⟩,ys,⟨rfl,by rw [Int.toNat_natCast];omega,by decide,by decide⟩,⟨trivial,by rw [Int.toNat_natCast];exact hz g⟩,fun x s' E' hE hq hs=>?_⟩
  rw [show 0+Int.toNat (i:Int)*1=i*1 by rw [Int.toNat_natCast];omega]
  exact Lp_re [some 0,some 1,some 2,some 3] (ih g x s' E' hE hq.eq hs) (wkH mr_)
 ·have g:i=m:=by simp at g;omega
  exact hQ _ _ _ (cloK_intro [some 0,some 1,some 2,some 3] (h g) (wkH mr_))
theorem rl95_28 (hB:Bs E b l c zs) (hl:l<=100000) (ha:0<=s0.1/\s0.1<=l) (hh:0<=hi/\hi<=60)
    (h:∀ (xs:List (List Int)) (s':Int×Int) (tot:Nat) (E':Mem),Mem.le E E'->RdL 96 hi zs s0 xs s'->0<=s'.1/\s'.1<=l->(∀ x∈xs,x.length=1)->KK (.tup []) [rBox b l c s',⟨40,.lst [.raw v0,.raw v1,.raw v2,.raw v3,.raw v4,.raw v5,.raw v6,.raw v7,.raw v8,.raw v9,.raw v10,.raw v11,.raw v12,.raw v13,.raw v14,.raw v15,.raw v16,.raw v17,.raw v18,.raw v19,.raw v20,.raw v21,.raw v22,.raw v23,.raw v24,.raw v25,.raw v26,.raw v27,.slc 3 0 xs.length xs.length,.raw v29],30,true⟩,⟨129,.lst [.ifc 79 (.loc 0 0)],1,true⟩,⟨32,.vals ((xs.flatten).map (.int .u64)),tot,true⟩] E') (hQ:∀ s bx' E',cloK 3 KK s bx' E'->Q s bx' E'):
    EntB Z2 6 Try.f95 [.ifc 79 (.loc 0 0),.loc 1 28,I hi,.clo 96 [] [.loc 2 0]] [rBox b l c s0,⟨40,.lst [.raw v0,.raw v1,.raw v2,.raw v3,.raw v4,.raw v5,.raw v6,.raw v7,.raw v8,.raw v9,.raw v10,.raw v11,.raw v12,.raw v13,.raw v14,.raw v15,.raw v16,.raw v17,.raw v18,.raw v19,.raw v20,.raw v21,.raw v22,.raw v23,.raw v24,.raw v25,.raw v26,.raw v27,L none 0 0,.raw v29],30,true⟩,⟨129,.lst [.ifc 79 (.loc 0 0)],1,true⟩] E Q:=by
  refine sm_ (?_:∃ (zs:List Int),((81=81/\3=3/\Sx.Alike al2 (IntKind.i64=IntKind.i64))/\Bs E b l c zs/\l<=100000/\0<=s0.fst/\s0.fst<=(NI l))/\IntKind.i64=IntKind.i64/\(0=3->False)/\∀ (v:Int) (s':Int×Int) (E':Mem),Mem.le E E'->Hyp (rnum zs (s0.fst,s0.snd) 0 hi=(v,s'))->0<=s'.fst/\s'.fst<=(NI l)->bif decide (v<(0:Int)) then Q (SV.tup []) [⟨81,.lst [L b l c,I s'.fst,I s'.snd],3,true⟩,⟨40,.lst [SV.raw v0,SV.raw v1,SV.raw v2,SV.raw v3,SV.raw v4,SV.raw v5,SV.raw v6,SV.raw v7,SV.raw v8,SV.raw v9,SV.raw v10,SV.raw v11,SV.raw v12,SV.raw v13,SV.raw v14,SV.raw v15,SV.raw v16,SV.raw v17,SV.raw v18,SV.raw v19,SV.raw v20,SV.raw v21,SV.raw v22,SV.raw v23,SV.raw v24,SV.raw v25,SV.raw v26,SV.raw v27,L none 0 0,SV.raw v29],30,true⟩,⟨129,.lst [SV.ifc 79 (SV.loc 0 0)],1,true⟩,⟨3,.lst [I v],1,true⟩] E' else bif bif false then true else decide (v>hi) then Q (SV.tup []) [⟨81,.lst [L b l c,I s'.fst,I s'.snd],3,true⟩,⟨40,.lst [SV.raw v0,SV.raw v1,SV.raw v2,SV.raw v3,SV.raw v4,SV.raw v5,SV.raw v6,SV.raw v7,SV.raw v8,SV.raw v9,SV.raw v10,SV.raw v11,SV.raw v12,SV.raw v13,SV.raw v14,SV.raw v15,SV.raw v16,SV.raw v17,SV.raw v18,SV.raw v19,SV.raw v20,SV.raw v21,SV.raw v22,SV.raw v23,SV.raw v24,SV.raw v25,SV.raw v26,SV.raw v27,L none 0 0,SV.raw v29],30,true⟩,⟨129,.lst [SV.ifc 79 (SV.loc 0 0)],1,true⟩,⟨3,.lst [I v],1,true⟩] E' else Sx.Alike al2 (bif (0:Int) !=v then req ((0:Int)<=v/\v<=v) (req (v*(8:Int)<=(140737488355328:Int)) (Lp Z2 6 Try.f95 [1,1,1,1,1,0] 3 Q { fr:=some (SV.ifc 79 (SV.loc 0 0))::oc 1 28::oI hi::some (SV.clo 96 [] [SV.loc 2 0])::none::none::none::none::oc 3 0::none::oc 1 28::oc 1 28::oL none 0 0::oI 0::some (SV.ifc 79 (SV.loc 0 0))::oI hi::some (SV.tup [])::oI v::oB (decide (v<(0:Int)))::oB false::oI v::oI hi::oB (decide (v>hi))::oB (bif false then true else decide (v>hi))::oc 1 28::oc 1 28::oL none 0 0::oI 0::oI v::oB ((0:Int) !=v)::oc 1 28::oI v::os 4 0 (Int.toNat v) (Int.toNat v)::oc 1 28::oc 1 28::oc 1 28::os 4 0 (Int.toNat v) (Int.toNat v)::oI (NI (Int.toNat v))::oI 0::no8 (no2 []),bx:=[(⟨81,.lst [L b l c,I s'.fst,I s'.snd],3,true⟩:Box),⟨40,.lst [SV.raw v0,SV.raw v1,SV.raw v2,SV.raw v3,SV.raw v4,SV.raw v5,SV.raw v6,SV.raw v7,SV.raw v8,SV.raw v9,SV.raw v10,SV.raw v11,SV.raw v12,SV.raw v13,SV.raw v14,SV.raw v15,SV.raw v16,SV.raw v17,SV.raw v18,SV.raw v19,SV.raw v20,SV.raw v21,SV.raw v22,SV.raw v23,SV.raw v24,SV.raw v25,SV.raw v26,SV.raw v27,SV.slc 4 0 (Int.toNat v) (Int.toNat v),SV.raw v29],30,true⟩,⟨129,.lst [SV.ifc 79 (SV.loc 0 0)],1,true⟩,⟨3,.lst [I v],1,true⟩,⟨32,.vals (zerosV [Value.int IntKind.u64 0] (Int.toNat v)),Int.toNat v*1,true⟩],E:=E':St })) else Lp Z2 6 Try.f95 [1,1,1,1,1,0] 3 Q { fr:=some (SV.ifc 79 (SV.loc 0 0))::oc 1 28::oI hi::some (SV.clo 96 [] [SV.loc 2 0])::none::none::none::none::oc 3 0::none::oc 1 28::oc 1 28::oL none 0 0::oI 0::some (SV.ifc 79 (SV.loc 0 0))::oI hi::some (SV.tup [])::oI v::oB (decide (v<(0:Int)))::oB false::oI v::oI hi::oB (decide (v>hi))::oB (bif false then true else decide (v>hi))::oc 1 28::oc 1 28::oL none 0 0::oI 0::oI v::oB ((0:Int) !=v)::none::none::none::none::oc 1 28::oc 1 28::oL none 0 0::oI 0::oI 0::no8 (no2 []),bx:=[(⟨81,.lst [L b l c,I s'.fst,I s'.snd],3,true⟩:Box),⟨40,.lst [SV.raw v0,SV.raw v1,SV.raw v2,SV.raw v3,SV.raw v4,SV.raw v5,SV.raw v6,SV.raw v7,SV.raw v8,SV.raw v9,SV.raw v10,SV.raw v11,SV.raw v12,SV.raw v13,SV.raw v14,SV.raw v15,SV.raw v16,SV.raw v17,SV.raw v18,SV.raw v19,SV.raw v20,SV.raw v21,SV.raw v22,SV.raw v23,SV.raw v24,SV.raw v25,SV.raw v26,SV.raw v27,L none 0 0,SV.raw v29],30,true⟩,⟨129,.lst [SV.ifc 79 (SV.loc 0 0)],1,true⟩,⟨3,.lst [I v],1,true⟩],E:=E':St }))
  delta NI no2 no8
  refine ⟨zs,⟨⟨rfl,rfl,alike rfl⟩,hB,hl,ha⟩,rfl,by decide,fun v s1 E1 e1 q1 w1=>?_⟩
  have q1:rnum zs s0 0 hi=(v,s1):=q1
  have r1:=rnum_range q1 hh.1
  have key:∀ tot:Nat,Lp Z2 6 Try.f95 [1,1,1,1,1,0] 3 Q (shL95_28 b l c s1 v0 v1 v2 v3 v4 v5 v6 v7 v8 v9 v10 v11 v12 v13 v14 v15 v16 v17 v18 v19 v20 v21 v22 v23 v24 v25 v26 v27 v29 hi v.toNat 0 tot (List.replicate (v.toNat*1) 0) E1):=by
    intro tot
    have:=Lp_ind okZ2 (n:=6) (fn:=Try.f95) (p:=[1,1,1,1,1,0]) (n0:=3) (K:=Q) (fun z:{z:Nat×List (List Int)×(Int×Int)×Mem//z.1<=v.toNat/\rRs 96 zs z.1 s1=(z.2.1,z.2.2.1)/\z.2.1.length=z.1/\(∀ x∈z.2.1,x.length=1)/\Mem.le E1 z.2.2.2/\(0<=z.2.2.1.1/\z.2.2.1.1<=l)}=>shL95_28 b l c z.1.2.2.1 v0 v1 v2 v3 v4 v5 v6 v7 v8 v9 v10 v11 v12 v13 v14 v15 v16 v17 v18 v19 v20 v21 v22 v23 v24 v25 v26 v27 v29 hi v.toNat z.1.1 tot (z.1.2.1.flatten++List.replicate ((v.toNat-z.1.1)*1) 0) z.1.2.2.2) (fun z=>v.toNat-z.1.1)
      (fun z ih=>by
        obtain ⟨⟨i,xs,s2,E2⟩,z1,z2,z3,z4,z5,z6⟩:=z
        have z1:i<=v.toNat:=z1
        have z3:xs.length=i:=z3
        have fl:=flat_len z4
        have fl:xs.flatten.length=xs.length*1:=fl
        have hd:(v.toNat-i)*1=(if i<v.toNat then 1 else 0)+(v.toNat-(i+1))*1:=by split<;>omega
        show Rnd Z2 6 Try.f95 [1,1,1,1,1,0] 3 Q (shL95_28 b l c s2 v0 v1 v2 v3 v4 v5 v6 v7 v8 v9 v10 v11 v12 v13 v14 v15 v16 v17 v18 v19 v20 v21 v22 v23 v24 v25 v26 v27 v29 hi v.toNat i tot (xs.flatten++List.replicate ((v.toNat-i)*1) 0) E2)
        refine rn95_28 (hB.mono (mt_ e1 z5)) hl z6 z1 (by omega) (by rw [List.length_append,List.length_replicate];omega) (fun g=>getD_pad (by omega)) (fun e=>?_) hQ (fun g x s' E' hE hq hs=>?_)
        · have e:i=v.toNat:=e
          subst e
          have:=h xs s2 tot E2 (mt_ e1 z5) ⟨by unfold rLs;rw [q1];exact z2⟩ z6 z4
          rw [show (v.toNat-v.toNat)*1=0 by omega,show List.replicate 0 (0:Int)=[] from rfl,List.append_nil]
          rw [z3] at this
          exact this
        · have hx:=rEl96_len hq
          have:=ih ⟨⟨i+1,xs++[x],s',E'⟩,g,rRs_succ z2 hq,by show (xs++[x]).length=i+1;simp [z3],(fun y hy=>by rcases List.mem_append.1 hy with h1|h1;exact z4 y h1;rw [List.mem_singleton.1 h1];exact hx),mt_ z5 hE,hs⟩ (by show v.toNat-(i+1)<v.toNat-i;omega)
          rw [hd,if_pos g,show i*1=xs.flatten.length by omega,layI_next hx]
          have e2:(xs++[x]).flatten=xs.flatten++x:=by simp
          have this:Lp Z2 6 Try.f95 [1,1,1,1,1,0] 3 Q (shL95_28 b l c s' v0 v1 v2 v3 v4 v5 v6 v7 v8 v9 v10 v11 v12 v13 v14 v15 v16 v17 v18 v19 v20 v21 v22 v23 v24 v25 v26 v27 v29 hi v.toNat (i+1) tot ((xs++[x]).flatten++List.replicate ((v.toNat-(i+1))*1) 0) E'):=this
          rw [e2] at this
          exact this) ⟨⟨0,[],s1,E1⟩,Nat.zero_le _,rfl,rfl,(fun x hx=>by cases hx),mr_,w1⟩
    exact this
  refine condC (fun g=>absurd g (by simp;omega)) (fun _=>condC (fun g=>absurd g (by simp;omega)) (fun _=>alike (condC (fun g=>?_) (fun g=>?_))))
  · refine req_intro (by omega) (req_intro (by omega) ?_)
    rw [zeros_int (q:=.u64) (k:=1) (z:=[.int .u64 0]) rfl]
    exact Lp_re [some 0,some 1,some 2,some 4] (key _) (wkH mr_)
  · have g : v = 0 := by have g:0=v:=by simpa using g
                         exact g.symm
    subst g
    exact Lp_re [some 0,some 1,some 2,none] (key 0) (wkH mr_)
noncomputable def Z3:Cx:={ P:=Try.prog,inl:=fun f=>List.contains [] f,tab:=fun _ _ _ _=>False,isB:=fun f=>f==125,tabB:=tabBR,opt:={ unroll:=0,carry:=[] },muts:=(fun o=>match o with | .call _=>true|o=>mutsD o) }
theorem okZ3:CxOK Z3:=CxOK.four (fun _ _ _ _ h=>h.elim) (by kernel_rfl) (okInl (by kernel_rfl)) tabBR_ok
theorem set3p {l:List Box} {A P P' Q C:Box} (hp:l[p]? =some Q) (hc:l[c]? =some C) (h2:r≠c) (h3:p≠c):((((l.set r A).set p P').set c C)++[]).set p P=(l.set r A).set p P:=by
 have e1:((l.set r A).set p P').set c C=((l.set r A).set c C).set p P':=List.set_comm _ _ h3
 have e2:(l.set r A).set c C=l.set r A:=set_same (by rw [List.getElem?_set_ne h2];exact hc)
 rw [e1,e2,List.append_nil,List.set_set]
theorem r65 {us:List Value} {e t:Nat} {x:Bool} (hv:us[off]? =some (.bool x)) (hB:Bs E b l c zs) (hl:l<=100000) (ha:0<=s0.1/\s0.1<=l)
  (h:∀ (v:Int) (s':Int×Int) (E':Mem),Mem.le E E'->Hyp (rnum zs s0 0 1=(v,s'))->0<=s'.1/\s'.1<=l->KK (.tup []) [rBox b l c s',⟨e,.vals (layV us off [.bool (v==1)]),t,true⟩] E') (hQ:∀ s bx' E',cloK 2 KK s bx' E'->Q s bx' E'):
  EntB Z3 6 Try.f65 [.ifc 79 (.loc 0 0),.loc 1 off] [rBox b l c s0,⟨e,.vals us,t,true⟩] E Q:=by
 refine sm_ (?_:∃ (b_1:Bool),LoadV Z3.P 4 us off (B b_1)/\bif b_1 then ∃ (zs:List Int),((81=81/\3=3/\Sx.Alike al2 (IntKind.i64=IntKind.i64))/\Bs E b l c zs/\l<=100000/\0<=s0.fst/\s0.fst<=(↑l:Int))/\IntKind.i64=IntKind.i64/\(0=2->False)/\∀ (v:Int) (s':Int×Int) (E':Mem),Mem.le E E'->Hyp (rnum zs (s0.fst,s0.snd) (0:Int) (1:Int)=(v,s'))->0<=s'.fst/\s'.fst<=(↑l:Int)->off+1<=List.length us/\Q (SV.tup []) [⟨81,Row.lst [L b l c,I s'.fst,I s'.snd],3,true⟩,⟨e,Row.vals (layV us off [Value.bool (v==(1:Int))]),t,true⟩,⟨3,Row.lst [I v],1,true⟩] E' else ∃ (zs:List Int),((81=81/\3=3/\Sx.Alike al2 (IntKind.i64=IntKind.i64))/\Bs E b l c zs/\l<=100000/\0<=s0.fst/\s0.fst<=(↑l:Int))/\IntKind.i64=IntKind.i64/\(0=2->False)/\∀ (v:Int) (s':Int×Int) (E':Mem),Mem.le E E'->Hyp (rnum zs (s0.fst,s0.snd) (0:Int) (1:Int)=(v,s'))->0<=s'.fst/\s'.fst<=(↑l:Int)->off+1<=List.length us/\Q (SV.tup []) [⟨81,Row.lst [L b l c,I s'.fst,I s'.snd],3,true⟩,⟨e,Row.vals (layV us off [Value.bool (v==(1:Int))]),t,true⟩,⟨3,Row.lst [I v],1,true⟩] E')
 have ho:=(List.getElem?_eq_some_iff.1 hv).1
 refine ⟨x,loadV_cell rfl rfl hv,condC (fun g=>?_) (fun g=>?_)⟩
 ·exact ⟨zs,⟨⟨rfl,rfl,alike rfl⟩,hB,hl,ha⟩,rfl,by decide,fun v s1 E1 e1 q1 w1=>⟨by omega,hQ _ _ _ (cloK_intro [some 0,some 1] (h v s1 E1 e1 q1 w1) (wkH mr_))⟩⟩
 ·exact ⟨zs,⟨⟨rfl,rfl,alike rfl⟩,hB,hl,ha⟩,rfl,by decide,fun v s1 E1 e1 q1 w1=>⟨by omega,hQ _ _ _ (cloK_intro [some 0,some 1] (h v s1 E1 e1 q1 w1) (wkH mr_))⟩⟩
theorem rfFrame {row:Row} {t:Nat} {x:Bool} {K:KT} (hr:bx[r]? =some (rBox b l c s0)) (hp:bx[p]? =some ⟨40,row,t,true⟩) (hv:row.cells[off]? =some (.raw (.bool x))) (hB:Bs E b l c zs) (hl:l<=100000) (ha:0<=s0.1/\s0.1<=l)
  (hk:∀ (v:Int) (s':Int×Int) (E':Mem),Mem.le E E'->Hyp (rnum zs s0 0 1=(v,s'))->0<=s'.1/\s'.1<=l->K (.tup []) ((bx.set r (rBox b l c s')).set p ⟨40,rowLay row off [.bool (v==1)],t,true⟩) E'):CallSem Try.prog 65 [.ifc 79 (.loc r 0),.loc p off] bx E K:=by
 have hne:r≠p:=elem_ne hr hp (by show (81:Nat)≠40;decide)
 refine CallSem.handO (args':=[.ifc 79 (.loc 0 0),.loc 1 off]) (σ:=[r,p]) (bxs:=[rBox b l c s0,deadB]) (k:=1) .vals (fun _=>rfl) hp rfl (by simp [hne]) rfl (fun i y hi hb=>?_) ?_ (fun us _ h2=>?_)
 ·match i,hb with
  | 0,hb=>
   simp only [List.getElem?_cons_zero,Option.some.injEq] at hb;subst hb
   exact ⟨rfl,r,rfl,by simpa [Box.ren,Row.ren,SV.renL,SV.ren,renF] using hr⟩
  | 1,hb=>exact absurd rfl hi
  | j+2,hb=>simp at hb
 ·simp only [SV.renL,SV.ren,renF,List.getElem?_cons_zero,List.getElem?_cons_succ]
 ·have hp':=(List.getElem?_eq_some_iff.1 hp).1
  refine bsm okZ3 Try.func65 (r65 (h2 off _ hv) hB hl ha (fun v s' E' hE hq hs=>?_) (fun _ _ _ q=>q))
  refine ⟨.vals (layV us off [.bool (v==1)]),rowLay row off [.bool (v==1)],⟨rfl,Cl.layV off _⟩,?_⟩
  simp only [SV.ren,SV.renL,merge,setAll,List.take,List.drop,List.map,List.length_cons,List.length_nil,Box.ren,Row.ren,renF,List.getElem?_cons_zero,List.getElem?_cons_succ]
  rw [set_app_over (by simpa using hp'),List.append_nil]
  exact hk v s' E' hE hq hs
theorem rlFrame {f cf:Nat} {cc:Nat} {cells:List SV} {K:KT} (hr:bx[r]? =some (rBox b l c s0)) (hp:bx[p]? =some ⟨40,.lst cells,30,true⟩) (hc:bx[cc]? =some ⟨129,.lst [.ifc 79 (.loc r 0)],1,true⟩) (hn:cells.length=30) (hv:cells[off]? =some (.raw (.slice none 0 0)))
  (he:∀ (us:List Value) (KK:KT),us.length=30->us[off]? =some (.slice none 0 0)->(∀ (xs:List (List Int)) (s':Int×Int) (bs:Option Addr) (cap:Nat) (E':Mem),Mem.le E E'->RdL cf hi zs s0 xs s'->0<=s'.1/\s'.1<=l->SL (RK q k) E' bs xs.length cap xs->KK (.tup []) [rBox b l c s',⟨40,.lst (lay (us.map .raw) off [L bs xs.length cap]),30,true⟩,⟨129,.lst [.ifc 79 (.loc 0 0)],1,true⟩] E')->
   CallSem Try.prog f [.ifc 79 (.loc 0 0),.loc 1 off,I hi,.clo cf [] [.loc 2 0]] [rBox b l c s0,⟨40,.lst (us.map .raw),30,true⟩,⟨129,.lst [.ifc 79 (.loc 0 0)],1,true⟩] E (cloK 3 KK))
  (hk:∀ (xs:List (List Int)) (s':Int×Int) (bs:Option Addr) (cap:Nat) (E':Mem),Mem.le E E'->RdL cf hi zs s0 xs s'->0<=s'.1/\s'.1<=l->SL (RK q k) E' bs xs.length cap xs->K (.tup []) ((bx.set r (rBox b l c s')).set p ⟨40,.lst (lay cells off [L bs xs.length cap]),30,true⟩) E'):
  CallSem Try.prog f [.ifc 79 (.loc r 0),.loc p off,I hi,.clo cf [] [.loc cc 0]] bx E K:=by
 have n1:r≠p:=elem_ne hr hp (by show (81:Nat)≠40;decide)
 have n2:r≠cc:=elem_ne hr hc (by show (81:Nat)≠129;decide)
 have n3:p≠cc:=elem_ne hp hc (by show (40:Nat)≠129;decide)
 refine CallSem.handO (args':=[.ifc 79 (.loc 0 0),.loc 1 off,I hi,.clo cf [] [.loc 2 0]]) (σ:=[r,p,cc]) (bxs:=[rBox b l c s0,deadB,⟨129,.lst [.ifc 79 (.loc 0 0)],1,true⟩]) (k:=1) (fun us=>.lst (us.map .raw)) (fun _=>rfl) hp rfl (by simp [n1,n2,n3]) rfl (fun i y hi hb=>?_) ?_ (fun us h1 h2=>?_)
 ·match i,hb with
  | 0,hb=>
   simp only [List.getElem?_cons_zero,Option.some.injEq] at hb;subst hb
   exact ⟨rfl,r,rfl,by simpa [Box.ren,Row.ren,SV.renL,SV.ren,renF] using hr⟩
  | 1,hb=>exact absurd rfl hi
  | 2,hb=>
   simp only [List.getElem?_cons_succ,List.getElem?_cons_zero,Option.some.injEq] at hb;subst hb
   exact ⟨rfl,cc,rfl,by simpa [Box.ren,Row.ren,SV.renL,SV.ren,renF] using hc⟩
  | j+3,hb=>simp at hb
 ·simp only [SV.renL,SV.ren,renF,List.getElem?_cons_zero,List.getElem?_cons_succ]
 ·have hp':=(List.getElem?_eq_some_iff.1 hp).1
  refine he us _ (by rw [h1];exact hn) (h2 off _ hv) (fun xs s' bs cap E' hE hq hs hX=>?_)
  refine ⟨.lst (lay (us.map .raw) off [L bs xs.length cap]),.lst (lay cells off [L bs xs.length cap]),⟨rfl,?_⟩,?_⟩
  ·have e1:lay (us.map SV.raw) off [L bs xs.length cap]=(layV us off [.slice bs xs.length cap]).map .raw:=by
    unfold lay layV;simp [List.map_take,List.map_drop]
   have e2:(Row.lst (lay (us.map .raw) off [L bs xs.length cap])).ren [r,p,cc] bx.length= .lst (lay (us.map .raw) off [L bs xs.length cap]):=by
    show Row.lst (SV.renL _ _ _)=_
    rw [e1,renL_of_val _ _ _ (valL_raws _)]
   rw [e2];exact Cl.lay off _
  ·exact (congrArg (fun l=>K (.tup []) l E') (set3p hp hc n2 n3)).mpr (hk xs s' bs cap E' hE hq hs hX)
theorem rp84_11 (hB:Bs E b l c zs) (hl:l<=100000) (ha:0<=s0.1/\s0.1<=l) (hh:0<=hi/\hi<=60)
  (h:∀ (xs:List (List Int)) (s':Int×Int) (bs:Option Addr) (cap:Nat) (E':Mem),Mem.le E E'->RdL 85 hi zs s0 xs s'->0<=s'.1/\s'.1<=l->SL (RK .i64 4) E' bs xs.length cap xs->KK (.tup []) [rBox b l c s',⟨40,.lst [.raw v0,.raw v1,.raw v2,.raw v3,.raw v4,.raw v5,.raw v6,.raw v7,.raw v8,.raw v9,.raw v10,L bs xs.length cap,.raw v12,.raw v13,.raw v14,.raw v15,.raw v16,.raw v17,.raw v18,.raw v19,.raw v20,.raw v21,.raw v22,.raw v23,.raw v24,.raw v25,.raw v26,.raw v27,.raw v28,.raw v29],30,true⟩,⟨129,.lst [.ifc 79 (.loc 0 0)],1,true⟩] E'):
  CallSem Try.prog 84 [.ifc 79 (.loc 0 0),.loc 1 11,I hi,.clo 85 [] [.loc 2 0]] [rBox b l c s0,⟨40,.lst [.raw v0,.raw v1,.raw v2,.raw v3,.raw v4,.raw v5,.raw v6,.raw v7,.raw v8,.raw v9,.raw v10,L none 0 0,.raw v12,.raw v13,.raw v14,.raw v15,.raw v16,.raw v17,.raw v18,.raw v19,.raw v20,.raw v21,.raw v22,.raw v23,.raw v24,.raw v25,.raw v26,.raw v27,.raw v28,.raw v29],30,true⟩,⟨129,.lst [.ifc 79 (.loc 0 0)],1,true⟩] E (cloK 3 KK):=by
 refine CallSem.pubAt (CallSem.clo (bsm okZ2 Try.func84 (rl84_11 (KK:=fun s bx' E'=>∃ b y cs,(bx'[b]? =some y/\y.row.val=some cs)/\∀ base E'',Mem.le E' E''->WinE E'' base cs->cloK 3 KK (s.subst b base) ((bx'.set b { y with own:=false }).map (Box.subst b base)) E'') hB hl ha hh (fun xs s' tot E' hE hq hs hx=>⟨3,_,_,⟨rfl,rfl⟩,?_⟩) (fun _ _ _ q=>q))))
 refine same (q:=∀ (base:Option Addr) (E2:Mem),Mem.le E' E2->WinE E2 base (xs.flatten.map (.int .i64))->cloK 3 KK (.tup []) [rBox b l c s',⟨40,.lst [.raw v0,.raw v1,.raw v2,.raw v3,.raw v4,.raw v5,.raw v6,.raw v7,.raw v8,.raw v9,.raw v10,.raw (slcAs base 0 xs.length xs.length),.raw v12,.raw v13,.raw v14,.raw v15,.raw v16,.raw v17,.raw v18,.raw v19,.raw v20,.raw v21,.raw v22,.raw v23,.raw v24,.raw v25,.raw v26,.raw v27,.raw v28,.raw v29],30,true⟩,⟨129,.lst [.ifc 79 (.loc 0 0)],1,true⟩,⟨95,.vals (xs.flatten.map (.int .i64)),tot,false⟩] E2) (by kernel_rfl) ?_
 intro base E2 h3 h4
 exact cloK_intro [some 0,some 1,some 2] (h xs s' (base.map fun x=>x.add 0) xs.length E2 (mt_ hE h3) hq hs (SL.win (RK_ok .i64 (by decide)) h4 flat_map (SLr_RK hx) rfl (Nat.le_refl _))) (wkH mr_)
theorem rp87_12 (hB:Bs E b l c zs) (hl:l<=100000) (ha:0<=s0.1/\s0.1<=l) (hh:0<=hi/\hi<=60)
  (h:∀ (xs:List (List Int)) (s':Int×Int) (bs:Option Addr) (cap:Nat) (E':Mem),Mem.le E E'->RdL 88 hi zs s0 xs s'->0<=s'.1/\s'.1<=l->SL (RK .i64 5) E' bs xs.length cap xs->KK (.tup []) [rBox b l c s',⟨40,.lst [.raw v0,.raw v1,.raw v2,.raw v3,.raw v4,.raw v5,.raw v6,.raw v7,.raw v8,.raw v9,.raw v10,.raw v11,L bs xs.length cap,.raw v13,.raw v14,.raw v15,.raw v16,.raw v17,.raw v18,.raw v19,.raw v20,.raw v21,.raw v22,.raw v23,.raw v24,.raw v25,.raw v26,.raw v27,.raw v28,.raw v29],30,true⟩,⟨129,.lst [.ifc 79 (.loc 0 0)],1,true⟩] E'):
  CallSem Try.prog 87 [.ifc 79 (.loc 0 0),.loc 1 12,I hi,.clo 88 [] [.loc 2 0]] [rBox b l c s0,⟨40,.lst [.raw v0,.raw v1,.raw v2,.raw v3,.raw v4,.raw v5,.raw v6,.raw v7,.raw v8,.raw v9,.raw v10,.raw v11,L none 0 0,.raw v13,.raw v14,.raw v15,.raw v16,.raw v17,.raw v18,.raw v19,.raw v20,.raw v21,.raw v22,.raw v23,.raw v24,.raw v25,.raw v26,.raw v27,.raw v28,.raw v29],30,true⟩,⟨129,.lst [.ifc 79 (.loc 0 0)],1,true⟩] E (cloK 3 KK):=by
 refine CallSem.pubAt (CallSem.clo (bsm okZ2 Try.func87 (rl87_12 (KK:=fun s bx' E'=>∃ b y cs,(bx'[b]? =some y/\y.row.val=some cs)/\∀ base E'',Mem.le E' E''->WinE E'' base cs->cloK 3 KK (s.subst b base) ((bx'.set b { y with own:=false }).map (Box.subst b base)) E'') hB hl ha hh (fun xs s' tot E' hE hq hs hx=>⟨3,_,_,⟨rfl,rfl⟩,?_⟩) (fun _ _ _ q=>q))))
 refine same (q:=∀ (base:Option Addr) (E2:Mem),Mem.le E' E2->WinE E2 base (xs.flatten.map (.int .i64))->cloK 3 KK (.tup []) [rBox b l c s',⟨40,.lst [.raw v0,.raw v1,.raw v2,.raw v3,.raw v4,.raw v5,.raw v6,.raw v7,.raw v8,.raw v9,.raw v10,.raw v11,.raw (slcAs base 0 xs.length xs.length),.raw v13,.raw v14,.raw v15,.raw v16,.raw v17,.raw v18,.raw v19,.raw v20,.raw v21,.raw v22,.raw v23,.raw v24,.raw v25,.raw v26,.raw v27,.raw v28,.raw v29],30,true⟩,⟨129,.lst [.ifc 79 (.loc 0 0)],1,true⟩,⟨97,.vals (xs.flatten.map (.int .i64)),tot,false⟩] E2) (by kernel_rfl) ?_
 intro base E2 h3 h4
 exact cloK_intro [some 0,some 1,some 2] (h xs s' (base.map fun x=>x.add 0) xs.length E2 (mt_ hE h3) hq hs (SL.win (RK_ok .i64 (by decide)) h4 flat_map (SLr_RK hx) rfl (Nat.le_refl _))) (wkH mr_)
theorem rp89_13 (hB:Bs E b l c zs) (hl:l<=100000) (ha:0<=s0.1/\s0.1<=l) (hh:0<=hi/\hi<=60)
  (h:∀ (xs:List (List Int)) (s':Int×Int) (bs:Option Addr) (cap:Nat) (E':Mem),Mem.le E E'->RdL 90 hi zs s0 xs s'->0<=s'.1/\s'.1<=l->SL (RK .i64 3) E' bs xs.length cap xs->KK (.tup []) [rBox b l c s',⟨40,.lst [.raw v0,.raw v1,.raw v2,.raw v3,.raw v4,.raw v5,.raw v6,.raw v7,.raw v8,.raw v9,.raw v10,.raw v11,.raw v12,L bs xs.length cap,.raw v14,.raw v15,.raw v16,.raw v17,.raw v18,.raw v19,.raw v20,.raw v21,.raw v22,.raw v23,.raw v24,.raw v25,.raw v26,.raw v27,.raw v28,.raw v29],30,true⟩,⟨129,.lst [.ifc 79 (.loc 0 0)],1,true⟩] E'):
  CallSem Try.prog 89 [.ifc 79 (.loc 0 0),.loc 1 13,I hi,.clo 90 [] [.loc 2 0]] [rBox b l c s0,⟨40,.lst [.raw v0,.raw v1,.raw v2,.raw v3,.raw v4,.raw v5,.raw v6,.raw v7,.raw v8,.raw v9,.raw v10,.raw v11,.raw v12,L none 0 0,.raw v14,.raw v15,.raw v16,.raw v17,.raw v18,.raw v19,.raw v20,.raw v21,.raw v22,.raw v23,.raw v24,.raw v25,.raw v26,.raw v27,.raw v28,.raw v29],30,true⟩,⟨129,.lst [.ifc 79 (.loc 0 0)],1,true⟩] E (cloK 3 KK):=by
 refine CallSem.pubAt (CallSem.clo (bsm okZ2 Try.func89 (rl89_13 (KK:=fun s bx' E'=>∃ b y cs,(bx'[b]? =some y/\y.row.val=some cs)/\∀ base E'',Mem.le E' E''->WinE E'' base cs->cloK 3 KK (s.subst b base) ((bx'.set b { y with own:=false }).map (Box.subst b base)) E'') hB hl ha hh (fun xs s' tot E' hE hq hs hx=>⟨3,_,_,⟨rfl,rfl⟩,?_⟩) (fun _ _ _ q=>q))))
 refine same (q:=∀ (base:Option Addr) (E2:Mem),Mem.le E' E2->WinE E2 base (xs.flatten.map (.int .i64))->cloK 3 KK (.tup []) [rBox b l c s',⟨40,.lst [.raw v0,.raw v1,.raw v2,.raw v3,.raw v4,.raw v5,.raw v6,.raw v7,.raw v8,.raw v9,.raw v10,.raw v11,.raw v12,.raw (slcAs base 0 xs.length xs.length),.raw v14,.raw v15,.raw v16,.raw v17,.raw v18,.raw v19,.raw v20,.raw v21,.raw v22,.raw v23,.raw v24,.raw v25,.raw v26,.raw v27,.raw v28,.raw v29],30,true⟩,⟨129,.lst [.ifc 79 (.loc 0 0)],1,true⟩,⟨99,.vals (xs.flatten.map (.int .i64)),tot,false⟩] E2) (by kernel_rfl) ?_
 intro base E2 h3 h4
 exact cloK_intro [some 0,some 1,some 2] (h xs s' (base.map fun x=>x.add 0) xs.length E2 (mt_ hE h3) hq hs (SL.win (RK_ok .i64 (by decide)) h4 flat_map (SLr_RK hx) rfl (Nat.le_refl _))) (wkH mr_)
theorem rp91_14 (hB:Bs E b l c zs) (hl:l<=100000) (ha:0<=s0.1/\s0.1<=l) (hh:0<=hi/\hi<=60)
  (h:∀ (xs:List (List Int)) (s':Int×Int) (bs:Option Addr) (cap:Nat) (E':Mem),Mem.le E E'->RdL 92 hi zs s0 xs s'->0<=s'.1/\s'.1<=l->SL (RK .i64 4) E' bs xs.length cap xs->KK (.tup []) [rBox b l c s',⟨40,.lst [.raw v0,.raw v1,.raw v2,.raw v3,.raw v4,.raw v5,.raw v6,.raw v7,.raw v8,.raw v9,.raw v10,.raw v11,.raw v12,.raw v13,L bs xs.length cap,.raw v15,.raw v16,.raw v17,.raw v18,.raw v19,.raw v20,.raw v21,.raw v22,.raw v23,.raw v24,.raw v25,.raw v26,.raw v27,.raw v28,.raw v29],30,true⟩,⟨129,.lst [.ifc 79 (.loc 0 0)],1,true⟩] E'):
  CallSem Try.prog 91 [.ifc 79 (.loc 0 0),.loc 1 14,I hi,.clo 92 [] [.loc 2 0]] [rBox b l c s0,⟨40,.lst [.raw v0,.raw v1,.raw v2,.raw v3,.raw v4,.raw v5,.raw v6,.raw v7,.raw v8,.raw v9,.raw v10,.raw v11,.raw v12,.raw v13,L none 0 0,.raw v15,.raw v16,.raw v17,.raw v18,.raw v19,.raw v20,.raw v21,.raw v22,.raw v23,.raw v24,.raw v25,.raw v26,.raw v27,.raw v28,.raw v29],30,true⟩,⟨129,.lst [.ifc 79 (.loc 0 0)],1,true⟩] E (cloK 3 KK):=by
 refine CallSem.pubAt (CallSem.clo (bsm okZ2 Try.func91 (rl91_14 (KK:=fun s bx' E'=>∃ b y cs,(bx'[b]? =some y/\y.row.val=some cs)/\∀ base E'',Mem.le E' E''->WinE E'' base cs->cloK 3 KK (s.subst b base) ((bx'.set b { y with own:=false }).map (Box.subst b base)) E'') hB hl ha hh (fun xs s' tot E' hE hq hs hx=>⟨3,_,_,⟨rfl,rfl⟩,?_⟩) (fun _ _ _ q=>q))))
 refine same (q:=∀ (base:Option Addr) (E2:Mem),Mem.le E' E2->WinE E2 base (xs.flatten.map (.int .i64))->cloK 3 KK (.tup []) [rBox b l c s',⟨40,.lst [.raw v0,.raw v1,.raw v2,.raw v3,.raw v4,.raw v5,.raw v6,.raw v7,.raw v8,.raw v9,.raw v10,.raw v11,.raw v12,.raw v13,.raw (slcAs base 0 xs.length xs.length),.raw v15,.raw v16,.raw v17,.raw v18,.raw v19,.raw v20,.raw v21,.raw v22,.raw v23,.raw v24,.raw v25,.raw v26,.raw v27,.raw v28,.raw v29],30,true⟩,⟨129,.lst [.ifc 79 (.loc 0 0)],1,true⟩,⟨101,.vals (xs.flatten.map (.int .i64)),tot,false⟩] E2) (by kernel_rfl) ?_
 intro base E2 h3 h4
 exact cloK_intro [some 0,some 1,some 2] (h xs s' (base.map fun x=>x.add 0) xs.length E2 (mt_ hE h3) hq hs (SL.win (RK_ok .i64 (by decide)) h4 flat_map (SLr_RK hx) rfl (Nat.le_refl _))) (wkH mr_)
theorem rp93_16 (hB:Bs E b l c zs) (hl:l<=100000) (ha:0<=s0.1/\s0.1<=l) (hh:0<=hi/\hi<=60)
  (h:∀ (xs:List (List Int)) (s':Int×Int) (bs:Option Addr) (cap:Nat) (E':Mem),Mem.le E E'->RdL 94 hi zs s0 xs s'->0<=s'.1/\s'.1<=l->SL (RK .i64 8) E' bs xs.length cap xs->KK (.tup []) [rBox b l c s',⟨40,.lst [.raw v0,.raw v1,.raw v2,.raw v3,.raw v4,.raw v5,.raw v6,.raw v7,.raw v8,.raw v9,.raw v10,.raw v11,.raw v12,.raw v13,.raw v14,.raw v15,L bs xs.length cap,.raw v17,.raw v18,.raw v19,.raw v20,.raw v21,.raw v22,.raw v23,.raw v24,.raw v25,.raw v26,.raw v27,.raw v28,.raw v29],30,true⟩,⟨129,.lst [.ifc 79 (.loc 0 0)],1,true⟩] E'):
  CallSem Try.prog 93 [.ifc 79 (.loc 0 0),.loc 1 16,I hi,.clo 94 [] [.loc 2 0]] [rBox b l c s0,⟨40,.lst [.raw v0,.raw v1,.raw v2,.raw v3,.raw v4,.raw v5,.raw v6,.raw v7,.raw v8,.raw v9,.raw v10,.raw v11,.raw v12,.raw v13,.raw v14,.raw v15,L none 0 0,.raw v17,.raw v18,.raw v19,.raw v20,.raw v21,.raw v22,.raw v23,.raw v24,.raw v25,.raw v26,.raw v27,.raw v28,.raw v29],30,true⟩,⟨129,.lst [.ifc 79 (.loc 0 0)],1,true⟩] E (cloK 3 KK):=by
 refine CallSem.pubAt (CallSem.clo (bsm okZ2 Try.func93 (rl93_16 (KK:=fun s bx' E'=>∃ b y cs,(bx'[b]? =some y/\y.row.val=some cs)/\∀ base E'',Mem.le E' E''->WinE E'' base cs->cloK 3 KK (s.subst b base) ((bx'.set b { y with own:=false }).map (Box.subst b base)) E'') hB hl ha hh (fun xs s' tot E' hE hq hs hx=>⟨3,_,_,⟨rfl,rfl⟩,?_⟩) (fun _ _ _ q=>q))))
 refine same (q:=∀ (base:Option Addr) (E2:Mem),Mem.le E' E2->WinE E2 base (xs.flatten.map (.int .i64))->cloK 3 KK (.tup []) [rBox b l c s',⟨40,.lst [.raw v0,.raw v1,.raw v2,.raw v3,.raw v4,.raw v5,.raw v6,.raw v7,.raw v8,.raw v9,.raw v10,.raw v11,.raw v12,.raw v13,.raw v14,.raw v15,.raw (slcAs base 0 xs.length xs.length),.raw v17,.raw v18,.raw v19,.raw v20,.raw v21,.raw v22,.raw v23,.raw v24,.raw v25,.raw v26,.raw v27,.raw v28,.raw v29],30,true⟩,⟨129,.lst [.ifc 79 (.loc 0 0)],1,true⟩,⟨127,.vals (xs.flatten.map (.int .i64)),tot,false⟩] E2) (by kernel_rfl) ?_
 intro base E2 h3 h4
 exact cloK_intro [some 0,some 1,some 2] (h xs s' (base.map fun x=>x.add 0) xs.length E2 (mt_ hE h3) hq hs (SL.win (RK_ok .i64 (by decide)) h4 flat_map (SLr_RK hx) rfl (Nat.le_refl _))) (wkH mr_)
theorem rp93_17 (hB:Bs E b l c zs) (hl:l<=100000) (ha:0<=s0.1/\s0.1<=l) (hh:0<=hi/\hi<=60)
  (h:∀ (xs:List (List Int)) (s':Int×Int) (bs:Option Addr) (cap:Nat) (E':Mem),Mem.le E E'->RdL 94 hi zs s0 xs s'->0<=s'.1/\s'.1<=l->SL (RK .i64 8) E' bs xs.length cap xs->KK (.tup []) [rBox b l c s',⟨40,.lst [.raw v0,.raw v1,.raw v2,.raw v3,.raw v4,.raw v5,.raw v6,.raw v7,.raw v8,.raw v9,.raw v10,.raw v11,.raw v12,.raw v13,.raw v14,.raw v15,.raw v16,L bs xs.length cap,.raw v18,.raw v19,.raw v20,.raw v21,.raw v22,.raw v23,.raw v24,.raw v25,.raw v26,.raw v27,.raw v28,.raw v29],30,true⟩,⟨129,.lst [.ifc 79 (.loc 0 0)],1,true⟩] E'):
  CallSem Try.prog 93 [.ifc 79 (.loc 0 0),.loc 1 17,I hi,.clo 94 [] [.loc 2 0]] [rBox b l c s0,⟨40,.lst [.raw v0,.raw v1,.raw v2,.raw v3,.raw v4,.raw v5,.raw v6,.raw v7,.raw v8,.raw v9,.raw v10,.raw v11,.raw v12,.raw v13,.raw v14,.raw v15,.raw v16,L none 0 0,.raw v18,.raw v19,.raw v20,.raw v21,.raw v22,.raw v23,.raw v24,.raw v25,.raw v26,.raw v27,.raw v28,.raw v29],30,true⟩,⟨129,.lst [.ifc 79 (.loc 0 0)],1,true⟩] E (cloK 3 KK):=by
 refine CallSem.pubAt (CallSem.clo (bsm okZ2 Try.func93 (rl93_17 (KK:=fun s bx' E'=>∃ b y cs,(bx'[b]? =some y/\y.row.val=some cs)/\∀ base E'',Mem.le E' E''->WinE E'' base cs->cloK 3 KK (s.subst b base) ((bx'.set b { y with own:=false }).map (Box.subst b base)) E'') hB hl ha hh (fun xs s' tot E' hE hq hs hx=>⟨3,_,_,⟨rfl,rfl⟩,?_⟩) (fun _ _ _ q=>q))))
 refine same (q:=∀ (base:Option Addr) (E2:Mem),Mem.le E' E2->WinE E2 base (xs.flatten.map (.int .i64))->cloK 3 KK (.tup []) [rBox b l c s',⟨40,.lst [.raw v0,.raw v1,.raw v2,.raw v3,.raw v4,.raw v5,.raw v6,.raw v7,.raw v8,.raw v9,.raw v10,.raw v11,.raw v12,.raw v13,.raw v14,.raw v15,.raw v16,.raw (slcAs base 0 xs.length xs.length),.raw v18,.raw v19,.raw v20,.raw v21,.raw v22,.raw v23,.raw v24,.raw v25,.raw v26,.raw v27,.raw v28,.raw v29],30,true⟩,⟨129,.lst [.ifc 79 (.loc 0 0)],1,true⟩,⟨127,.vals (xs.flatten.map (.int .i64)),tot,false⟩] E2) (by kernel_rfl) ?_
 intro base E2 h3 h4
 exact cloK_intro [some 0,some 1,some 2] (h xs s' (base.map fun x=>x.add 0) xs.length E2 (mt_ hE h3) hq hs (SL.win (RK_ok .i64 (by decide)) h4 flat_map (SLr_RK hx) rfl (Nat.le_refl _))) (wkH mr_)
theorem rp67_18 (hB:Bs E b l c zs) (hl:l<=100000) (ha:0<=s0.1/\s0.1<=l) (hh:0<=hi/\hi<=60)
  (h:∀ (xs:List (List Int)) (s':Int×Int) (bs:Option Addr) (cap:Nat) (E':Mem),Mem.le E E'->RdL 68 hi zs s0 xs s'->0<=s'.1/\s'.1<=l->SL (RK .i64 1) E' bs xs.length cap xs->KK (.tup []) [rBox b l c s',⟨40,.lst [.raw v0,.raw v1,.raw v2,.raw v3,.raw v4,.raw v5,.raw v6,.raw v7,.raw v8,.raw v9,.raw v10,.raw v11,.raw v12,.raw v13,.raw v14,.raw v15,.raw v16,.raw v17,L bs xs.length cap,.raw v19,.raw v20,.raw v21,.raw v22,.raw v23,.raw v24,.raw v25,.raw v26,.raw v27,.raw v28,.raw v29],30,true⟩,⟨129,.lst [.ifc 79 (.loc 0 0)],1,true⟩] E'):
  CallSem Try.prog 67 [.ifc 79 (.loc 0 0),.loc 1 18,I hi,.clo 68 [] [.loc 2 0]] [rBox b l c s0,⟨40,.lst [.raw v0,.raw v1,.raw v2,.raw v3,.raw v4,.raw v5,.raw v6,.raw v7,.raw v8,.raw v9,.raw v10,.raw v11,.raw v12,.raw v13,.raw v14,.raw v15,.raw v16,.raw v17,L none 0 0,.raw v19,.raw v20,.raw v21,.raw v22,.raw v23,.raw v24,.raw v25,.raw v26,.raw v27,.raw v28,.raw v29],30,true⟩,⟨129,.lst [.ifc 79 (.loc 0 0)],1,true⟩] E (cloK 3 KK):=by
 refine CallSem.pubAt (CallSem.clo (bsm okZ2 Try.func67 (rl67_18 (KK:=fun s bx' E'=>∃ b y cs,(bx'[b]? =some y/\y.row.val=some cs)/\∀ base E'',Mem.le E' E''->WinE E'' base cs->cloK 3 KK (s.subst b base) ((bx'.set b { y with own:=false }).map (Box.subst b base)) E'') hB hl ha hh (fun xs s' tot E' hE hq hs hx=>⟨3,_,_,⟨rfl,rfl⟩,?_⟩) (fun _ _ _ q=>q))))
 refine same (q:=∀ (base:Option Addr) (E2:Mem),Mem.le E' E2->WinE E2 base (xs.flatten.map (.int .i64))->cloK 3 KK (.tup []) [rBox b l c s',⟨40,.lst [.raw v0,.raw v1,.raw v2,.raw v3,.raw v4,.raw v5,.raw v6,.raw v7,.raw v8,.raw v9,.raw v10,.raw v11,.raw v12,.raw v13,.raw v14,.raw v15,.raw v16,.raw v17,.raw (slcAs base 0 xs.length xs.length),.raw v19,.raw v20,.raw v21,.raw v22,.raw v23,.raw v24,.raw v25,.raw v26,.raw v27,.raw v28,.raw v29],30,true⟩,⟨129,.lst [.ifc 79 (.loc 0 0)],1,true⟩,⟨3,.vals (xs.flatten.map (.int .i64)),tot,false⟩] E2) (by kernel_rfl) ?_
 intro base E2 h3 h4
 exact cloK_intro [some 0,some 1,some 2] (h xs s' (base.map fun x=>x.add 0) xs.length E2 (mt_ hE h3) hq hs (SL.win (RK_ok .i64 (by decide)) h4 flat_map (SLr_RK hx) rfl (Nat.le_refl _))) (wkH mr_)
theorem rp95_28 (hB:Bs E b l c zs) (hl:l<=100000) (ha:0<=s0.1/\s0.1<=l) (hh:0<=hi/\hi<=60)
  (h:∀ (xs:List (List Int)) (s':Int×Int) (bs:Option Addr) (cap:Nat) (E':Mem),Mem.le E E'->RdL 96 hi zs s0 xs s'->0<=s'.1/\s'.1<=l->SL (RK .u64 1) E' bs xs.length cap xs->KK (.tup []) [rBox b l c s',⟨40,.lst [.raw v0,.raw v1,.raw v2,.raw v3,.raw v4,.raw v5,.raw v6,.raw v7,.raw v8,.raw v9,.raw v10,.raw v11,.raw v12,.raw v13,.raw v14,.raw v15,.raw v16,.raw v17,.raw v18,.raw v19,.raw v20,.raw v21,.raw v22,.raw v23,.raw v24,.raw v25,.raw v26,.raw v27,L bs xs.length cap,.raw v29],30,true⟩,⟨129,.lst [.ifc 79 (.loc 0 0)],1,true⟩] E'):
  CallSem Try.prog 95 [.ifc 79 (.loc 0 0),.loc 1 28,I hi,.clo 96 [] [.loc 2 0]] [rBox b l c s0,⟨40,.lst [.raw v0,.raw v1,.raw v2,.raw v3,.raw v4,.raw v5,.raw v6,.raw v7,.raw v8,.raw v9,.raw v10,.raw v11,.raw v12,.raw v13,.raw v14,.raw v15,.raw v16,.raw v17,.raw v18,.raw v19,.raw v20,.raw v21,.raw v22,.raw v23,.raw v24,.raw v25,.raw v26,.raw v27,L none 0 0,.raw v29],30,true⟩,⟨129,.lst [.ifc 79 (.loc 0 0)],1,true⟩] E (cloK 3 KK):=by
 refine CallSem.pubAt (CallSem.clo (bsm okZ2 Try.func95 (rl95_28 (KK:=fun s bx' E'=>∃ b y cs,(bx'[b]? =some y/\y.row.val=some cs)/\∀ base E'',Mem.le E' E''->WinE E'' base cs->cloK 3 KK (s.subst b base) ((bx'.set b { y with own:=false }).map (Box.subst b base)) E'') hB hl ha hh (fun xs s' tot E' hE hq hs hx=>⟨3,_,_,⟨rfl,rfl⟩,?_⟩) (fun _ _ _ q=>q))))
 refine same (q:=∀ (base:Option Addr) (E2:Mem),Mem.le E' E2->WinE E2 base (xs.flatten.map (.int .u64))->cloK 3 KK (.tup []) [rBox b l c s',⟨40,.lst [.raw v0,.raw v1,.raw v2,.raw v3,.raw v4,.raw v5,.raw v6,.raw v7,.raw v8,.raw v9,.raw v10,.raw v11,.raw v12,.raw v13,.raw v14,.raw v15,.raw v16,.raw v17,.raw v18,.raw v19,.raw v20,.raw v21,.raw v22,.raw v23,.raw v24,.raw v25,.raw v26,.raw v27,.raw (slcAs base 0 xs.length xs.length),.raw v29],30,true⟩,⟨129,.lst [.ifc 79 (.loc 0 0)],1,true⟩,⟨32,.vals (xs.flatten.map (.int .u64)),tot,false⟩] E2) (by kernel_rfl) ?_
 intro base E2 h3 h4
 exact cloK_intro [some 0,some 1,some 2] (h xs s' (base.map fun x=>x.add 0) xs.length E2 (mt_ hE h3) hq hs (SL.win (RK_ok .u64 (by decide)) h4 flat_map (SLr_RK hx) rfl (Nat.le_refl _))) (wkH mr_)
def clR (cf:FuncId) (x y:SV) (bx:List Box) (E:Mem) (k:Nat->Nat->Option Addr->Nat->Nat->Int×Int->List Int->Prop):Prop:=match x with
 | .ifc t x1=>(match y with
  | .clo f [] [z]=>(t=79/\f=cf)/\crS bx E z (fun cc r b l c s zs=>x1= .loc r 0/\k cc r b l c s zs)
  | _=>False)
 | _=>False
theorem clR_elim {cf:FuncId} {x y:SV} {k:Nat->Nat->Option Addr->Nat->Nat->Int×Int->List Int->Prop} (h:clR cf x y bx E k):
  ∃ cc r b l c s zs,x= .ifc 79 (.loc r 0)/\y= .clo cf [] [.loc cc 0]/\bx[cc]? =some ⟨129,.lst [.ifc 79 (.loc r 0)],1,true⟩/\bx[r]? =some (rBox b l c s)/\Bs E b l c zs/\l<=100000/\(0<=s.1/\s.1<=l)/\k cc r b l c s zs:=by
 unfold clR at h
 split at h
 case h_2=>exact h.elim
 rename_i t x1
 split at h
 case h_2=>exact h.elim
 rename_i f z
 obtain ⟨⟨rfl,rfl⟩,h⟩:=h
 obtain ⟨cc,r,b,l,c,s,zs,rfl,hc,hr,hB,hl,ha,rfl,hk⟩:=crS_elim h
 exact ⟨cc,r,b,l,c,s,zs,rfl,rfl,hc,hr,hB,hl,ha,hk⟩
def bcL (bx:List Box) (x:SV) (okp:Nat->Prop) (k:Nat->Nat->List SV->Prop):Prop:=match x with
 | .loc p o=>match bx[p]? with
  | some ⟨e,.lst cells,t,true⟩=>match cells[o]? with
   | some (.raw (.slice none 0 0))=>(e=40/\t=30/\okp o/\cells.length=30)/\k p o cells
   | _=>False
  | _=>False
 | _=>False
theorem bcL_elim {x:SV} {okp:Nat->Prop} {k:Nat->Nat->List SV->Prop} (h:bcL bx x okp k):
  ∃ p o cells,x= .loc p o/\bx[p]? =some ⟨40,.lst cells,30,true⟩/\okp o/\cells.length=30/\cells[o]? =some (.raw (.slice none 0 0))/\k p o cells:=by
 unfold bcL at h
 split at h
 case h_2=>exact h.elim
 rename_i p o
 split at h
 case h_2=>exact h.elim
 rename_i e cells t hp
 split at h
 case h_2=>exact h.elim
 rename_i hv
 obtain ⟨⟨rfl,rfl,h1,h2⟩,hk⟩:=h
 exact ⟨p,o,cells,rfl,hp,h1,h2,hv,hk⟩
def bcF (bx:List Box) (x:SV) (k:Nat->Nat->List SV->Nat->Prop):Prop:=match x with
 | .loc p o=>match bx[p]? with
  | some ⟨e,.lst cells,t,true⟩=>match cells[o]? with
   | some (.raw (.bool _))=>e=40/\k p o cells t
   | _=>False
  | _=>False
 | _=>False
theorem bcF_elim {x:SV} {k:Nat->Nat->List SV->Nat->Prop} (h:bcF bx x k):
  ∃ p o cells t y,x= .loc p o/\bx[p]? =some ⟨40,.lst cells,t,true⟩/\cells[o]? =some (.raw (.bool y))/\k p o cells t:=by
 unfold bcF at h
 split at h
 case h_2=>exact h.elim
 rename_i p o
 split at h
 case h_2=>exact h.elim
 rename_i e cells t hp
 split at h
 case h_2=>exact h.elim
 rename_i y hv
 obtain ⟨rfl,hk⟩:=h
 exact ⟨p,o,cells,t,y,rfl,hp,hv,hk⟩
def iR (bx:List Box) (E:Mem) (x:SV) (k:Nat->Option Addr->Nat->Nat->Int×Int->List Int->Prop):Prop:=match x with
 | .ifc t x1=>t=79/\rS bx E x1 k
 | _=>False
theorem iR_elim {x:SV} {k:Nat->Option Addr->Nat->Nat->Int×Int->List Int->Prop} (h:iR bx E x k):
  ∃ r b l c s zs,x= .ifc 79 (.loc r 0)/\bx[r]? =some (rBox b l c s)/\Bs E b l c zs/\l<=100000/\(0<=s.1/\s.1<=l)/\k r b l c s zs:=by
 unfold iR at h
 split at h
 case h_2=>exact h.elim
 obtain ⟨rfl,h⟩:=h
 obtain ⟨r,b,l,c,s,zs,rfl,h1,h2,h3,h4,h5⟩:=rS_elim h
 exact ⟨r,b,l,c,s,zs,rfl,h1,h2,h3,h4,h5⟩
noncomputable def tabBT:CallT:=fun f args bx E K=>match f with
 | 65=>d2 args fun x0 x1=>iR bx E x0 fun r b l c s zs=>bcF bx x1 fun p o cells t=>∀ (v:Int) (s':Int×Int) (E':Mem),Mem.le E E'->Hyp (rnum zs s 0 1=(v,s'))->0<=s'.1/\s'.1<=l->K (.tup []) ((bx.set r (rBox b l c s')).set p ⟨40,.lst (lay cells o [.raw (.bool (v==1))]),t,true⟩) E'
 | 84=>d4 args fun x0 x1 x2 x3=>dI x2 fun hi=>clR 85 x0 x3 bx E fun cc r b l c s zs=>bcL bx x1 (fun o=>o=11) fun p o cells=>(0<=hi/\hi<=60)/\∀ (xs:List (List Int)) (s':Int×Int) (bs:Option Addr) (cap:Nat) (E':Mem),Mem.le E E'->RdL 85 hi zs s xs s'->0<=s'.1/\s'.1<=l->SL (RK .i64 4) E' bs xs.length cap xs->K (.tup []) ((bx.set r (rBox b l c s')).set p ⟨40,.lst (lay cells o [L bs xs.length cap]),30,true⟩) E'
 | 87=>d4 args fun x0 x1 x2 x3=>dI x2 fun hi=>clR 88 x0 x3 bx E fun cc r b l c s zs=>bcL bx x1 (fun o=>o=12) fun p o cells=>(0<=hi/\hi<=60)/\∀ (xs:List (List Int)) (s':Int×Int) (bs:Option Addr) (cap:Nat) (E':Mem),Mem.le E E'->RdL 88 hi zs s xs s'->0<=s'.1/\s'.1<=l->SL (RK .i64 5) E' bs xs.length cap xs->K (.tup []) ((bx.set r (rBox b l c s')).set p ⟨40,.lst (lay cells o [L bs xs.length cap]),30,true⟩) E'
 | 89=>d4 args fun x0 x1 x2 x3=>dI x2 fun hi=>clR 90 x0 x3 bx E fun cc r b l c s zs=>bcL bx x1 (fun o=>o=13) fun p o cells=>(0<=hi/\hi<=60)/\∀ (xs:List (List Int)) (s':Int×Int) (bs:Option Addr) (cap:Nat) (E':Mem),Mem.le E E'->RdL 90 hi zs s xs s'->0<=s'.1/\s'.1<=l->SL (RK .i64 3) E' bs xs.length cap xs->K (.tup []) ((bx.set r (rBox b l c s')).set p ⟨40,.lst (lay cells o [L bs xs.length cap]),30,true⟩) E'
 | 91=>d4 args fun x0 x1 x2 x3=>dI x2 fun hi=>clR 92 x0 x3 bx E fun cc r b l c s zs=>bcL bx x1 (fun o=>o=14) fun p o cells=>(0<=hi/\hi<=60)/\∀ (xs:List (List Int)) (s':Int×Int) (bs:Option Addr) (cap:Nat) (E':Mem),Mem.le E E'->RdL 92 hi zs s xs s'->0<=s'.1/\s'.1<=l->SL (RK .i64 4) E' bs xs.length cap xs->K (.tup []) ((bx.set r (rBox b l c s')).set p ⟨40,.lst (lay cells o [L bs xs.length cap]),30,true⟩) E'
 | 93=>d4 args fun x0 x1 x2 x3=>dI x2 fun hi=>clR 94 x0 x3 bx E fun cc r b l c s zs=>bcL bx x1 (fun o=>o=16\/o=17) fun p o cells=>(0<=hi/\hi<=60)/\∀ (xs:List (List Int)) (s':Int×Int) (bs:Option Addr) (cap:Nat) (E':Mem),Mem.le E E'->RdL 94 hi zs s xs s'->0<=s'.1/\s'.1<=l->SL (RK .i64 8) E' bs xs.length cap xs->K (.tup []) ((bx.set r (rBox b l c s')).set p ⟨40,.lst (lay cells o [L bs xs.length cap]),30,true⟩) E'
 | 67=>d4 args fun x0 x1 x2 x3=>dI x2 fun hi=>clR 68 x0 x3 bx E fun cc r b l c s zs=>bcL bx x1 (fun o=>o=18) fun p o cells=>(0<=hi/\hi<=60)/\∀ (xs:List (List Int)) (s':Int×Int) (bs:Option Addr) (cap:Nat) (E':Mem),Mem.le E E'->RdL 68 hi zs s xs s'->0<=s'.1/\s'.1<=l->SL (RK .i64 1) E' bs xs.length cap xs->K (.tup []) ((bx.set r (rBox b l c s')).set p ⟨40,.lst (lay cells o [L bs xs.length cap]),30,true⟩) E'
 | 95=>d4 args fun x0 x1 x2 x3=>dI x2 fun hi=>clR 96 x0 x3 bx E fun cc r b l c s zs=>bcL bx x1 (fun o=>o=28) fun p o cells=>(0<=hi/\hi<=60)/\∀ (xs:List (List Int)) (s':Int×Int) (bs:Option Addr) (cap:Nat) (E':Mem),Mem.le E E'->RdL 96 hi zs s xs s'->0<=s'.1/\s'.1<=l->SL (RK .u64 1) E' bs xs.length cap xs->K (.tup []) ((bx.set r (rBox b l c s')).set p ⟨40,.lst (lay cells o [L bs xs.length cap]),30,true⟩) E'
 | _=>False
theorem tabBT_ok:∀ f args bx E K,tabBT f args bx E K->CallSem Try.prog f args bx E K:=by
 intro f args bx E K h
 unfold tabBT at h
 split at h
 ·obtain ⟨x0,x1,rfl,h1⟩:=d2_elim h
  obtain ⟨r,b,l,c,s,zs,rfl,hr,hB,hl,ha,h2⟩:=iR_elim h1
  obtain ⟨p,o,cells,t,y,rfl,hp,hv,hk⟩:=bcF_elim h2
  exact rfFrame hr hp hv hB hl ha hk
 ·obtain ⟨x0,x1,x2,x3,rfl,h1⟩:=d4_elim h
  obtain ⟨hi,rfl,h2⟩:=dI_elim h1
  obtain ⟨cc,r,b,l,c,s,zs,rfl,rfl,hc,hr,hB,hl,ha,h3⟩:=clR_elim h2
  obtain ⟨p,o,cells,rfl,hp,ho,hn,hv,hh,hk⟩:=bcL_elim h3
  subst ho
  exact rlFrame hr hp hc hn hv (fun us KK hus hu hKK=>by
    match us,hus with
    | [v0,v1,v2,v3,v4,v5,v6,v7,v8,v9,v10,v11,v12,v13,v14,v15,v16,v17,v18,v19,v20,v21,v22,v23,v24,v25,v26,v27,v28,v29],_=>
     have hu:v11= .slice none 0 0:=by simpa using hu
     subst hu
     exact rp84_11 hB hl ha hh hKK) hk
 ·obtain ⟨x0,x1,x2,x3,rfl,h1⟩:=d4_elim h
  obtain ⟨hi,rfl,h2⟩:=dI_elim h1
  obtain ⟨cc,r,b,l,c,s,zs,rfl,rfl,hc,hr,hB,hl,ha,h3⟩:=clR_elim h2
  obtain ⟨p,o,cells,rfl,hp,ho,hn,hv,hh,hk⟩:=bcL_elim h3
  subst ho
  exact rlFrame hr hp hc hn hv (fun us KK hus hu hKK=>by
    match us,hus with
    | [v0,v1,v2,v3,v4,v5,v6,v7,v8,v9,v10,v11,v12,v13,v14,v15,v16,v17,v18,v19,v20,v21,v22,v23,v24,v25,v26,v27,v28,v29],_=>
     have hu:v12= .slice none 0 0:=by simpa using hu
     subst hu
     exact rp87_12 hB hl ha hh hKK) hk
 ·obtain ⟨x0,x1,x2,x3,rfl,h1⟩:=d4_elim h
  obtain ⟨hi,rfl,h2⟩:=dI_elim h1
  obtain ⟨cc,r,b,l,c,s,zs,rfl,rfl,hc,hr,hB,hl,ha,h3⟩:=clR_elim h2
  obtain ⟨p,o,cells,rfl,hp,ho,hn,hv,hh,hk⟩:=bcL_elim h3
  subst ho
  exact rlFrame hr hp hc hn hv (fun us KK hus hu hKK=>by
    match us,hus with
    | [v0,v1,v2,v3,v4,v5,v6,v7,v8,v9,v10,v11,v12,v13,v14,v15,v16,v17,v18,v19,v20,v21,v22,v23,v24,v25,v26,v27,v28,v29],_=>
     have hu:v13= .slice none 0 0:=by simpa using hu
     subst hu
     exact rp89_13 hB hl ha hh hKK) hk
 ·obtain ⟨x0,x1,x2,x3,rfl,h1⟩:=d4_elim h
  obtain ⟨hi,rfl,h2⟩:=dI_elim h1
  obtain ⟨cc,r,b,l,c,s,zs,rfl,rfl,hc,hr,hB,hl,ha,h3⟩:=clR_elim h2
  obtain ⟨p,o,cells,rfl,hp,ho,hn,hv,hh,hk⟩:=bcL_elim h3
  subst ho
  exact rlFrame hr hp hc hn hv (fun us KK hus hu hKK=>by
    match us,hus with
    | [v0,v1,v2,v3,v4,v5,v6,v7,v8,v9,v10,v11,v12,v13,v14,v15,v16,v17,v18,v19,v20,v21,v22,v23,v24,v25,v26,v27,v28,v29],_=>
     have hu:v14= .slice none 0 0:=by simpa using hu
     subst hu
     exact rp91_14 hB hl ha hh hKK) hk
 ·obtain ⟨x0,x1,x2,x3,rfl,h1⟩:=d4_elim h
  obtain ⟨hi,rfl,h2⟩:=dI_elim h1
  obtain ⟨cc,r,b,l,c,s,zs,rfl,rfl,hc,hr,hB,hl,ha,h3⟩:=clR_elim h2
  obtain ⟨p,o,cells,rfl,hp,ho,hn,hv,hh,hk⟩:=bcL_elim h3
  obtain (rfl|rfl):=ho
  ·exact rlFrame hr hp hc hn hv (fun us KK hus hu hKK=>by
    match us,hus with
    | [v0,v1,v2,v3,v4,v5,v6,v7,v8,v9,v10,v11,v12,v13,v14,v15,v16,v17,v18,v19,v20,v21,v22,v23,v24,v25,v26,v27,v28,v29],_=>
     have hu:v16= .slice none 0 0:=by simpa using hu
     subst hu
     exact rp93_16 hB hl ha hh hKK) hk
  ·exact rlFrame hr hp hc hn hv (fun us KK hus hu hKK=>by
    match us,hus with
    | [v0,v1,v2,v3,v4,v5,v6,v7,v8,v9,v10,v11,v12,v13,v14,v15,v16,v17,v18,v19,v20,v21,v22,v23,v24,v25,v26,v27,v28,v29],_=>
     have hu:v17= .slice none 0 0:=by simpa using hu
     subst hu
     exact rp93_17 hB hl ha hh hKK) hk
 ·obtain ⟨x0,x1,x2,x3,rfl,h1⟩:=d4_elim h
  obtain ⟨hi,rfl,h2⟩:=dI_elim h1
  obtain ⟨cc,r,b,l,c,s,zs,rfl,rfl,hc,hr,hB,hl,ha,h3⟩:=clR_elim h2
  obtain ⟨p,o,cells,rfl,hp,ho,hn,hv,hh,hk⟩:=bcL_elim h3
  subst ho
  exact rlFrame hr hp hc hn hv (fun us KK hus hu hKK=>by
    match us,hus with
    | [v0,v1,v2,v3,v4,v5,v6,v7,v8,v9,v10,v11,v12,v13,v14,v15,v16,v17,v18,v19,v20,v21,v22,v23,v24,v25,v26,v27,v28,v29],_=>
     have hu:v18= .slice none 0 0:=by simpa using hu
     subst hu
     exact rp67_18 hB hl ha hh hKK) hk
 ·obtain ⟨x0,x1,x2,x3,rfl,h1⟩:=d4_elim h
  obtain ⟨hi,rfl,h2⟩:=dI_elim h1
  obtain ⟨cc,r,b,l,c,s,zs,rfl,rfl,hc,hr,hB,hl,ha,h3⟩:=clR_elim h2
  obtain ⟨p,o,cells,rfl,hp,ho,hn,hv,hh,hk⟩:=bcL_elim h3
  subst ho
  exact rlFrame hr hp hc hn hv (fun us KK hus hu hKK=>by
    match us,hus with
    | [v0,v1,v2,v3,v4,v5,v6,v7,v8,v9,v10,v11,v12,v13,v14,v15,v16,v17,v18,v19,v20,v21,v22,v23,v24,v25,v26,v27,v28,v29],_=>
     have hu:v28= .slice none 0 0:=by simpa using hu
     subst hu
     exact rp95_28 hB hl ha hh hKK) hk
 ·exact h.elim
noncomputable def tabBR32:CallT:=fun f args bx E K=>if 118<=f then tabBR f args bx E K else tabBT f args bx E K
theorem tabBR32_ok:∀ f args bx E K,tabBR32 f args bx E K->CallSem Try.prog f args bx E K:=by
 intro f args bx E K h
 unfold tabBR32 at h
 split at h
 ·exact tabBR_ok _ _ _ _ _ h
 ·exact tabBT_ok _ _ _ _ _ h
noncomputable def Z4:Cx:={ P:=Try.prog,inl:=fun f=>List.contains [32,63,64,66,69] f,tab:=fun _ _ _ _=>False,isB:=fun f=>f==65||f==84||f==87||f==89||f==91||f==93||f==67||f==95||f==123||f==124||f==125||f==126,tabB:=tabBR32,opt:={ unroll:=3,carry:=[] },muts:=(fun o=>match o with | .call { callee:=.builtin .len,.. }=>false| .call _=>true|o=>mutsD o) }
theorem okZ4:CxOK Z4:=CxOK.four (fun _ _ _ _ h=>h.elim) (by kernel_rfl) (okInl (by kernel_rfl)) tabBR32_ok
structure DecA (zs:List Int) (x:Bc) (s0 s1 s2 s3 s4 s5 s6 s7 s8 s9 s10 s11 s12 s13 s14 s15 s16 s17 s18 s19 s20 s21 s22 s23 s24 s25 s26:Int×Int) (vf vh:Int):Prop where
 q1:rnum zs s0 0 59=(x.from_,s1)
 q2:rnum zs s1 0 1000000000=(x.asn,s2)
 q3:rnum zs s2 0 1000000000=(x.boot,s3)
 q4:rnum zs s3 0 60=(x.hops,s4)
 q5:rnum zs s4 0 2000=(x.bound,s5)
 q6:rnum zs s5 0 1000000000=(x.fresh,s6)
 q7:rnum zs s6 0 1000000000=(x.seq,s7)
 q8:rnum zs s7 0 1000000=(x.rank,s8)
 q9:rnum zs s8 (-1) 59=(x.parent,s9)
 q10:rnum zs s9 0 500002=(x.first,s10)
 q11:rnum zs s10 0 500002=(x.next,s11)
 q12:rLs 85 24 zs s11=(x.uses,s12)
 q13:rLs 88 24 zs s12=(x.grants,s13)
 q14:rLs 90 24 zs s13=(x.asks,s14)
 q15:rLs 92 60 zs s14=(x.below,s15)
 q16:rnum zs s15 0 1=(vf,s16)/\x.full=(vf==1)
 q17:rLs 94 4 zs s16=(x.words,s17)
 q18:rLs 94 1 zs s17=(x.mail,s18)
 q19:rLs 68 60 zs s18=(x.got,s19)
 q20:rnum zs s19 0 1000000000=(x.nver,s20)
 q21:rnum zs s20 0 4096=(x.size,s21)
 q22:rdig zs s21 0=(x.dig,s22)
 q23:rnum zs s22 0 1000000000=(x.start,s23)
 q24:rnum zs s23 0 16=(x.pages,s24)
 q25:rnum zs s24 0 1000000000=(x.version,s25)
 q26:rnum zs s25 0 1=(vh,s26)/\x.has=(vh==1)
structure DecB (zs:List Int) (x:Bc) (s26 s27 s28 s29 s30:Int×Int):Prop where
 q27:rnum zs s26 0 15=(x.page,s27)
 q28:rnum zs s27 0 1000000000=(x.seed,s28)
 q29:rtake zs s28 16=(x.data,s29)
 q30:rLs 96 5 zs s29=(x.proof,s30)
def DecR (zs:List Int) (x:Bc) (s':Int×Int):Prop:=∃ s1 s2 s3 s4 s5 s6 s7 s8 s9 s10 s11 s12 s13 s14 s15 s16 s17 s18 s19 s20 s21 s22 s23 s24 s25 s26:Int×Int,∃ vf vh:Int,DecA zs x (0,0) s1 s2 s3 s4 s5 s6 s7 s8 s9 s10 s11 s12 s13 s14 s15 s16 s17 s18 s19 s20 s21 s22 s23 s24 s25 s26 vf vh/\
 if x.has then ∃ s27 s28 s29:Int×Int,DecB zs x s26 s27 s28 s29 s' else x.page=0/\x.seed=0/\x.data=[]/\x.proof=[]/\s'=s26
structure BcM (E:Mem) (x:Bc) (b11:Option Addr) (n11 c11:Nat) (b12:Option Addr) (n12 c12:Nat) (b13:Option Addr) (n13 c13:Nat) (b14:Option Addr) (n14 c14:Nat) (b16:Option Addr) (n16 c16:Nat) (b17:Option Addr) (n17 c17:Nat) (b18:Option Addr) (n18 c18:Nat) (b27:Option Addr) (n27 c27:Nat) (b28:Option Addr) (n28 c28:Nat):Prop where
 h11:SL (RK .i64 4) E b11 n11 c11 x.uses
 h12:SL (RK .i64 5) E b12 n12 c12 x.grants
 h13:SL (RK .i64 3) E b13 n13 c13 x.asks
 h14:SL (RK .i64 4) E b14 n14 c14 x.below
 h16:SL (RK .i64 8) E b16 n16 c16 x.words
 h17:SL (RK .i64 8) E b17 n17 c17 x.mail
 h18:SL (RK .i64 1) E b18 n18 c18 x.got
 h27:Bs E b27 n27 c27 x.data
 h28:SL (RK .u64 1) E b28 n28 c28 x.proof
theorem p13 (hB:Bs E b l c zs) (hl:l<=100000)
  (h:∀ (x:Bc) (s':Int×Int) b11 n11 c11 b12 n12 c12 b13 n13 c13 b14 n14 c14 b16 n16 c16 b17 n17 c17 b18 n18 c18 b27 n27 c27 b28 n28 c28 (E':Mem),Mem.le E E'->DecR zs x s'->0<=s'.1/\s'.1<=l->BcM E' x b11 n11 c11 b12 n12 c12 b13 n13 c13 b14 n14 c14 b16 n16 c16 b17 n17 c17 b18 n18 c18 b27 n27 c27 b28 n28 c28->
   if s'.2=0 then (if s'.1<l then K (.tup [.agg [I 0,I 0,I 0,I 0,I 0,I 0,I 0,I 0,I 0,I 0,I 0,L none 0 0,L none 0 0,L none 0 0,L none 0 0,B false,L none 0 0,L none 0 0,L none 0 0,I 0,I 0,.raw (.int .u64 0),I 0,I 0,I 0,I 0,I 0,L none 0 0,L none 0 0,B false],I 11]) E' else K (.tup [.agg [I x.from_,I x.asn,I x.boot,I x.hops,I x.bound,I x.fresh,I x.seq,I x.rank,I x.parent,I x.first,I x.next,L b11 n11 c11,L b12 n12 c12,L b13 n13 c13,L b14 n14 c14,B x.full,L b16 n16 c16,L b17 n17 c17,L b18 n18 c18,I x.nver,I x.size,.raw (.int .u64 x.dig),I x.start,I x.pages,I x.version,I x.page,I x.seed,L b27 n27 c27,L b28 n28 c28,B x.has],I 0]) E') else K (.tup [.agg [I 0,I 0,I 0,I 0,I 0,I 0,I 0,I 0,I 0,I 0,I 0,L none 0 0,L none 0 0,L none 0 0,L none 0 0,B false,L none 0 0,L none 0 0,L none 0 0,I 0,I 0,.raw (.int .u64 0),I 0,I 0,I 0,I 0,I 0,L none 0 0,L none 0 0,B false],I s'.2]) E'):
  Ent Z4 8 Try.f13 [L b l c] E K:=by
 refine sm_ (?_:∃ (zs:List Int),((81=81/\3=3/\Sx.Alike al2 (IntKind.i64=IntKind.i64))/\Bs E b l c zs/\l<=100000/\(0:Int)<=(0:Int)/\0<=(NI l))/\IntKind.i64=IntKind.i64/\(1=2->False)/\∀ (v:Int) (s':Int×Int) (E':Mem),Mem.le E E'->Hyp (rnum zs ((0:Int),(0:Int)) 0 (59:Int)=(v,s'))->0<=s'.fst/\s'.fst<=(NI l)->∃ (zs:List Int),((81=81/\3=3/\Sx.Alike al2 (IntKind.i64=IntKind.i64))/\Bs E' b l c zs/\l<=100000/\0<=s'.fst/\s'.fst<=(NI l))/\IntKind.i64=IntKind.i64/\(1=2->False)/\∀ (v_1:Int) (s'_1:Int×Int) (E'_1:Mem),Mem.le E' E'_1->Hyp (rnum zs (s'.fst,s'.snd) 0 (1000000000:Int)=(v_1,s'_1))->0<=s'_1.fst/\s'_1.fst<=(NI l)->∃ (zs:List Int),((81=81/\3=3/\Sx.Alike al2 (IntKind.i64=IntKind.i64))/\Bs E'_1 b l c zs/\l<=100000/\0<=s'_1.fst/\s'_1.fst<=(NI l))/\IntKind.i64=IntKind.i64/\(1=2->False)/\∀ (v_2:Int) (s':Int×Int) (E':Mem),Mem.le E'_1 E'->Hyp (rnum zs (s'_1.fst,s'_1.snd) 0 (1000000000:Int)=(v_2,s'))->0<=s'.fst/\s'.fst<=(NI l)->∃ (zs:List Int),((81=81/\3=3/\Sx.Alike al2 (IntKind.i64=IntKind.i64))/\Bs E' b l c zs/\l<=100000/\0<=s'.fst/\s'.fst<=(NI l))/\IntKind.i64=IntKind.i64/\(1=2->False)/\∀ (v_3:Int) (s'_2:Int×Int) (E'_2:Mem),Mem.le E' E'_2->Hyp (rnum zs (s'.fst,s'.snd) 0 (60:Int)=(v_3,s'_2))->0<=s'_2.fst/\s'_2.fst<=(NI l)->∃ (zs:List Int),((81=81/\3=3/\Sx.Alike al2 (IntKind.i64=IntKind.i64))/\Bs E'_2 b l c zs/\l<=100000/\0<=s'_2.fst/\s'_2.fst<=(NI l))/\IntKind.i64=IntKind.i64/\(1=2->False)/\∀ (v_4:Int) (s':Int×Int) (E':Mem),Mem.le E'_2 E'->Hyp (rnum zs (s'_2.fst,s'_2.snd) 0 (2000:Int)=(v_4,s'))->0<=s'.fst/\s'.fst<=(NI l)->∃ (zs:List Int),((81=81/\3=3/\Sx.Alike al2 (IntKind.i64=IntKind.i64))/\Bs E' b l c zs/\l<=100000/\0<=s'.fst/\s'.fst<=(NI l))/\IntKind.i64=IntKind.i64/\(1=2->False)/\∀ (v_5:Int) (s'_3:Int×Int) (E'_3:Mem),Mem.le E' E'_3->Hyp (rnum zs (s'.fst,s'.snd) 0 (1000000000:Int)=(v_5,s'_3))->0<=s'_3.fst/\s'_3.fst<=(NI l)->∃ (zs:List Int),((81=81/\3=3/\Sx.Alike al2 (IntKind.i64=IntKind.i64))/\Bs E'_3 b l c zs/\l<=(100000:Nat)/\0<=s'_3.fst/\s'_3.fst<=(NI l))/\IntKind.i64=IntKind.i64/\(1=2->False)/\∀ (v_6:Int) (s':Int×Int) (E':Mem),Mem.le E'_3 E'->Hyp (rnum zs (s'_3.fst,s'_3.snd) 0 (1000000000:Int)=(v_6,s'))->0<=s'.fst/\s'.fst<=(NI l)->∃ (zs:List Int),(((81:Nat)=(81:Nat)/\(3:Nat)=(3:Nat)/\Sx.Alike al2 (IntKind.i64=IntKind.i64))/\Bs E' b l c zs/\l<=(100000:Nat)/\0<=s'.fst/\s'.fst<=(NI l))/\IntKind.i64=IntKind.i64/\((1:Nat)=(2:Nat)->False)/\∀ (v_7:Int) (s'_4:Int×Int) (E'_4:Mem),Mem.le E' E'_4->Hyp (rnum zs (s'.fst,s'.snd) 0 (1000000:Int)=(v_7,s'_4))->0<=s'_4.fst/\s'_4.fst<=(NI l)->∃ (zs:List Int),(((81:Nat)=(81:Nat)/\(3:Nat)=(3:Nat)/\Sx.Alike al2 (IntKind.i64=IntKind.i64))/\Bs E'_4 b l c zs/\l<=(100000:Nat)/\0<=s'_4.fst/\s'_4.fst<=(NI l))/\IntKind.i64=IntKind.i64/\((1:Nat)=(2:Nat)->False)/\∀ (v_8:Int) (s':Int×Int) (E':Mem),Mem.le E'_4 E'->Hyp (rnum zs (s'_4.fst,s'_4.snd) (-1:Int) (59:Int)=(v_8,s'))->0<=s'.fst/\s'.fst<=(NI l)->∃ (zs:List Int),(((81:Nat)=(81:Nat)/\(3:Nat)=(3:Nat)/\Sx.Alike al2 (IntKind.i64=IntKind.i64))/\Bs E' b l c zs/\l<=(100000:Nat)/\0<=s'.fst/\s'.fst<=(NI l))/\IntKind.i64=IntKind.i64/\((1:Nat)=(2:Nat)->False)/\∀ (v_9:Int) (s'_5:Int×Int) (E'_5:Mem),Mem.le E' E'_5->Hyp (rnum zs (s'.fst,s'.snd) 0 (500002:Int)=(v_9,s'_5))->0<=s'_5.fst/\s'_5.fst<=(NI l)->∃ (zs:List Int),(((81:Nat)=(81:Nat)/\(3:Nat)=(3:Nat)/\Sx.Alike al2 (IntKind.i64=IntKind.i64))/\Bs E'_5 b l c zs/\l<=(100000:Nat)/\0<=s'_5.fst/\s'_5.fst<=(NI l))/\IntKind.i64=IntKind.i64/\((1:Nat)=(2:Nat)->False)/\∀ (v_10:Int) (s':Int×Int) (E':Mem),Mem.le E'_5 E'->Hyp (rnum zs (s'_5.fst,s'_5.snd) 0 (500002:Int)=(v_10,s'))->0<=s'.fst/\s'.fst<=(NI l)->((79:Nat)=(79:Nat)/\(85:Nat)=(85:Nat))/\((129:Nat)=(129:Nat)/\(79:Nat)=(79:Nat)/\(1:Nat)=(1:Nat))/\∃ (zs:List Int),(((81:Nat)=(81:Nat)/\(3:Nat)=(3:Nat)/\Sx.Alike al2 (IntKind.i64=IntKind.i64))/\Bs E' b l c zs/\l<=(100000:Nat)/\0<=s'.fst/\s'.fst<=(NI l))/\SV.loc 1 (0:Nat)=SV.loc 1 (0:Nat)/\((40:Nat)=(40:Nat)/\(30:Nat)=(30:Nat)/\(11:Nat)=(11:Nat)/\(30:Nat)=(30:Nat))/\((0:Int)<=(24:Int)/\(24:Int)<=(60:Int))/\∀ (xs:List (List Int)) (s'_6:Int×Int) (bs:Option Addr) (cap:Nat) (E'_6:Mem),Mem.le E' E'_6->RdL 85 24 zs (s'.fst,s'.snd) xs s'_6->0<=s'_6.fst/\s'_6.fst<=(NI l)->SL (RK IntKind.i64 4) E'_6 bs (List.length xs) cap xs->((79:Nat)=(79:Nat)/\(88:Nat)=(88:Nat))/\((129:Nat)=(129:Nat)/\(79:Nat)=(79:Nat)/\(1:Nat)=(1:Nat))/\∃ (zs:List Int),(((81:Nat)=(81:Nat)/\(3:Nat)=(3:Nat)/\Sx.Alike al2 (IntKind.i64=IntKind.i64))/\Bs E'_6 b l c zs/\l<=(100000:Nat)/\0<=s'_6.fst/\s'_6.fst<=(NI l))/\SV.loc 1 (0:Nat)=SV.loc 1 (0:Nat)/\((40:Nat)=(40:Nat)/\(30:Nat)=(30:Nat)/\(12:Nat)=(12:Nat)/\(30:Nat)=(30:Nat))/\((0:Int)<=(24:Int)/\(24:Int)<=(60:Int))/\∀ (xs_1:List (List Int)) (s':Int×Int) (bs_1:Option Addr) (cap_1:Nat) (E':Mem),Mem.le E'_6 E'->RdL 88 24 zs (s'_6.fst,s'_6.snd) xs_1 s'->0<=s'.fst/\s'.fst<=(NI l)->SL (RK IntKind.i64 5) E' bs_1 (List.length xs_1) cap_1 xs_1->((79:Nat)=(79:Nat)/\(90:Nat)=(90:Nat))/\((129:Nat)=(129:Nat)/\(79:Nat)=(79:Nat)/\(1:Nat)=(1:Nat))/\∃ (zs:List Int),(((81:Nat)=(81:Nat)/\(3:Nat)=(3:Nat)/\Sx.Alike al2 (IntKind.i64=IntKind.i64))/\Bs E' b l c zs/\l<=(100000:Nat)/\0<=s'.fst/\s'.fst<=(NI l))/\SV.loc 1 (0:Nat)=SV.loc 1 (0:Nat)/\((40:Nat)=(40:Nat)/\(30:Nat)=(30:Nat)/\(13:Nat)=(13:Nat)/\(30:Nat)=(30:Nat))/\((0:Int)<=(24:Int)/\(24:Int)<=(60:Int))/\∀ (xs_2:List (List Int)) (s'_7:Int×Int) (bs_2:Option Addr) (cap_2:Nat) (E'_7:Mem),Mem.le E' E'_7->RdL 90 24 zs (s'.fst,s'.snd) xs_2 s'_7->0<=s'_7.fst/\s'_7.fst<=(NI l)->SL (RK IntKind.i64 3) E'_7 bs_2 (List.length xs_2) cap_2 xs_2->((79:Nat)=(79:Nat)/\(92:Nat)=(92:Nat))/\((129:Nat)=(129:Nat)/\(79:Nat)=(79:Nat)/\(1:Nat)=(1:Nat))/\∃ (zs:List Int),(((81:Nat)=(81:Nat)/\(3:Nat)=(3:Nat)/\Sx.Alike al2 (IntKind.i64=IntKind.i64))/\Bs E'_7 b l c zs/\l<=(100000:Nat)/\0<=s'_7.fst/\s'_7.fst<=(NI l))/\SV.loc 1 (0:Nat)=SV.loc 1 (0:Nat)/\((40:Nat)=(40:Nat)/\(30:Nat)=(30:Nat)/\(14:Nat)=(14:Nat)/\(30:Nat)=(30:Nat))/\((0:Int)<=(60:Int)/\(60:Int)<=(60:Int))/\∀ (xs_3:List (List Int)) (s':Int×Int) (bs_3:Option Addr) (cap_3:Nat) (E':Mem),Mem.le E'_7 E'->RdL 92 60 zs (s'_7.fst,s'_7.snd) xs_3 s'->0<=s'.fst/\s'.fst<=(NI l)->SL (RK IntKind.i64 4) E' bs_3 (List.length xs_3) cap_3 xs_3->(79:Nat)=(79:Nat)/\∃ (zs:List Int),(((81:Nat)=(81:Nat)/\(3:Nat)=(3:Nat)/\Sx.Alike al2 (IntKind.i64=IntKind.i64))/\Bs E' b l c zs/\l<=(100000:Nat)/\0<=s'.fst/\s'.fst<=(NI l))/\(40:Nat)=(40:Nat)/\∀ (v_11:Int) (s'_8:Int×Int) (E'_8:Mem),Mem.le E' E'_8->Hyp (rnum zs (s'.fst,s'.snd) 0 (1:Int)=(v_11,s'_8))->0<=s'_8.fst/\s'_8.fst<=(NI l)->((79:Nat)=(79:Nat)/\(94:Nat)=(94:Nat))/\((129:Nat)=(129:Nat)/\(79:Nat)=(79:Nat)/\(1:Nat)=(1:Nat))/\∃ (zs:List Int),(((81:Nat)=(81:Nat)/\(3:Nat)=(3:Nat)/\Sx.Alike al2 (IntKind.i64=IntKind.i64))/\Bs E'_8 b l c zs/\l<=(100000:Nat)/\0<=s'_8.fst/\s'_8.fst<=(NI l))/\SV.loc 1 (0:Nat)=SV.loc 1 (0:Nat)/\((40:Nat)=(40:Nat)/\(30:Nat)=(30:Nat)/\((16:Nat)=(16:Nat)\/(16:Nat)=(17:Nat))/\(30:Nat)=(30:Nat))/\((0:Int)<=(4:Int)/\(4:Int)<=(60:Int))/\∀ (xs_4:List (List Int)) (s':Int×Int) (bs_4:Option Addr) (cap_4:Nat) (E':Mem),Mem.le E'_8 E'->RdL 94 4 zs (s'_8.fst,s'_8.snd) xs_4 s'->0<=s'.fst/\s'.fst<=(NI l)->SL (RK IntKind.i64 8) E' bs_4 (List.length xs_4) cap_4 xs_4->((79:Nat)=(79:Nat)/\(94:Nat)=(94:Nat))/\((129:Nat)=(129:Nat)/\(79:Nat)=(79:Nat)/\(1:Nat)=(1:Nat))/\∃ (zs:List Int),(((81:Nat)=(81:Nat)/\(3:Nat)=(3:Nat)/\Sx.Alike al2 (IntKind.i64=IntKind.i64))/\Bs E' b l c zs/\l<=(100000:Nat)/\0<=s'.fst/\s'.fst<=(NI l))/\SV.loc 1 (0:Nat)=SV.loc 1 (0:Nat)/\((40:Nat)=(40:Nat)/\(30:Nat)=(30:Nat)/\((17:Nat)=(16:Nat)\/(17:Nat)=(17:Nat))/\(30:Nat)=(30:Nat))/\((0:Int)<=(1:Int)/\(1:Int)<=(60:Int))/\∀ (xs_5:List (List Int)) (s'_9:Int×Int) (bs_5:Option Addr) (cap_5:Nat) (E'_9:Mem),Mem.le E' E'_9->RdL 94 1 zs (s'.fst,s'.snd) xs_5 s'_9->0<=s'_9.fst/\s'_9.fst<=(NI l)->SL (RK IntKind.i64 8) E'_9 bs_5 (List.length xs_5) cap_5 xs_5->((79:Nat)=(79:Nat)/\(68:Nat)=(68:Nat))/\((129:Nat)=(129:Nat)/\(79:Nat)=(79:Nat)/\(1:Nat)=(1:Nat))/\∃ (zs:List Int),(((81:Nat)=(81:Nat)/\(3:Nat)=(3:Nat)/\Sx.Alike al2 (IntKind.i64=IntKind.i64))/\Bs E'_9 b l c zs/\l<=(100000:Nat)/\0<=s'_9.fst/\s'_9.fst<=(NI l))/\SV.loc 1 (0:Nat)=SV.loc 1 (0:Nat)/\((40:Nat)=(40:Nat)/\(30:Nat)=(30:Nat)/\(18:Nat)=(18:Nat)/\(30:Nat)=(30:Nat))/\((0:Int)<=(60:Int)/\(60:Int)<=(60:Int))/\∀ (xs_6:List (List Int)) (s':Int×Int) (bs_6:Option Addr) (cap_6:Nat) (E':Mem),Mem.le E'_9 E'->RdL 68 60 zs (s'_9.fst,s'_9.snd) xs_6 s'->0<=s'.fst/\s'.fst<=(NI l)->SL (RK IntKind.i64 1) E' bs_6 (List.length xs_6) cap_6 xs_6->∃ (zs:List Int),(((81:Nat)=(81:Nat)/\(3:Nat)=(3:Nat)/\Sx.Alike al2 (IntKind.i64=IntKind.i64))/\Bs E' b l c zs/\l<=(100000:Nat)/\0<=s'.fst/\s'.fst<=(NI l))/\IntKind.i64=IntKind.i64/\((1:Nat)=(2:Nat)->False)/\∀ (v_12:Int) (s'_10:Int×Int) (E'_10:Mem),Mem.le E' E'_10->Hyp (rnum zs (s'.fst,s'.snd) 0 (1000000000:Int)=(v_12,s'_10))->0<=s'_10.fst/\s'_10.fst<=(NI l)->∃ (zs:List Int),(((81:Nat)=(81:Nat)/\(3:Nat)=(3:Nat)/\Sx.Alike al2 (IntKind.i64=IntKind.i64))/\Bs E'_10 b l c zs/\l<=(100000:Nat)/\0<=s'_10.fst/\s'_10.fst<=(NI l))/\IntKind.i64=IntKind.i64/\((1:Nat)=(2:Nat)->False)/\∀ (v_13:Int) (s':Int×Int) (E':Mem),Mem.le E'_10 E'->Hyp (rnum zs (s'_10.fst,s'_10.snd) 0 (4096:Int)=(v_13,s'))->0<=s'.fst/\s'.fst<=(NI l)->∃ (zs:List Int),(((81:Nat)=(81:Nat)/\(3:Nat)=(3:Nat)/\Sx.Alike al2 (IntKind.i64=IntKind.i64))/\Bs E' b l c zs/\l<=(100000:Nat)/\0<=s'.fst/\s'.fst<=(NI l))/\IntKind.u64=IntKind.u64/\((1:Nat)=(2:Nat)->False)/\∀ (ys:List Int) (s'_11:Int×Int) (E'_11:Mem),Mem.le E' E'_11->Hyp (rtake zs (s'.fst,s'.snd) (8:Int)=(ys,s'_11))->0<=s'_11.fst/\s'_11.fst<=(NI l)->∃ (zs:List Int),(((81:Nat)=(81:Nat)/\(3:Nat)=(3:Nat)/\Sx.Alike al2 (IntKind.i64=IntKind.i64))/\Bs E'_11 b l c zs/\l<=(100000:Nat)/\0<=s'_11.fst/\s'_11.fst<=(NI l))/\IntKind.i64=IntKind.i64/\((1:Nat)=(2:Nat)->False)/\∀ (v_14:Int) (s':Int×Int) (E':Mem),Mem.le E'_11 E'->Hyp (rnum zs (s'_11.fst,s'_11.snd) 0 (1000000000:Int)=(v_14,s'))->0<=s'.fst/\s'.fst<=(NI l)->∃ (zs:List Int),(((81:Nat)=(81:Nat)/\(3:Nat)=(3:Nat)/\Sx.Alike al2 (IntKind.i64=IntKind.i64))/\Bs E' b l c zs/\l<=(100000:Nat)/\0<=s'.fst/\s'.fst<=(NI l))/\IntKind.i64=IntKind.i64/\((1:Nat)=(2:Nat)->False)/\∀ (v_15:Int) (s'_12:Int×Int) (E'_12:Mem),Mem.le E' E'_12->Hyp (rnum zs (s'.fst,s'.snd) 0 (16:Int)=(v_15,s'_12))->0<=s'_12.fst/\s'_12.fst<=(NI l)->∃ (zs:List Int),(((81:Nat)=(81:Nat)/\(3:Nat)=(3:Nat)/\Sx.Alike al2 (IntKind.i64=IntKind.i64))/\Bs E'_12 b l c zs/\l<=(100000:Nat)/\0<=s'_12.fst/\s'_12.fst<=(NI l))/\IntKind.i64=IntKind.i64/\((1:Nat)=(2:Nat)->False)/\∀ (v_16:Int) (s':Int×Int) (E':Mem),Mem.le E'_12 E'->Hyp (rnum zs (s'_12.fst,s'_12.snd) 0 (1000000000:Int)=(v_16,s'))->0<=s'.fst/\s'.fst<=(NI l)->(79:Nat)=(79:Nat)/\∃ (zs:List Int),(((81:Nat)=(81:Nat)/\(3:Nat)=(3:Nat)/\Sx.Alike al2 (IntKind.i64=IntKind.i64))/\Bs E' b l c zs/\l<=(100000:Nat)/\0<=s'.fst/\s'.fst<=(NI l))/\(40:Nat)=(40:Nat)/\∀ (v_17:Int) (s'_13:Int×Int) (E'_13:Mem),Mem.le E' E'_13->Hyp (rnum zs (s'.fst,s'.snd) 0 (1:Int)=(v_17,s'_13))->0<=s'_13.fst/\s'_13.fst<=(NI l)->bif !v_17==(1:Int) then ∃ (zs:List Int),(((81:Nat)=(81:Nat)/\(3:Nat)=(3:Nat)/\Sx.Alike al2 (IntKind.i64=IntKind.i64))/\Bs E'_13 b l c zs/\l<=(100000:Nat)/\0<=s'_13.fst/\s'_13.fst<=(NI l))/\IntKind.i64=IntKind.i64/\((1:Nat)=(2:Nat)->False)/\∃ (zs:List Int),(((81:Nat)=(81:Nat)/\(3:Nat)=(3:Nat)/\Sx.Alike al2 (IntKind.i64=IntKind.i64))/\Bs E'_13 b l c zs/\l<=(100000:Nat)/\0<=s'_13.fst/\s'_13.fst<=(NI l))/\IntKind.i64=IntKind.i64/\((1:Nat)=(2:Nat)->False)/\∃ (zs:List Int),(((81:Nat)=(81:Nat)/\(3:Nat)=(3:Nat)/\Sx.Alike al2 (IntKind.i64=IntKind.i64))/\Bs E'_13 b l c zs/\l<=(100000:Nat)/\0<=s'_13.fst/\s'_13.fst<=(NI l))/\IntKind.i64=IntKind.i64/\((1:Nat)=(10:Nat)->False)/\bif s'_13.snd==(0:Int) then bif bif true then decide (s'_13.fst<(NI l)) else false then Sx.Alike al2 (Mem.le E E'_13/\K (SV.tup [SV.agg [I 0,I 0,I 0,I 0,I 0,I 0,I 0,I 0,I 0,I 0,I 0,L none 0 0,L none 0 0,L none 0 0,L none 0 0,B false,L none 0 0,L none 0 0,L none 0 0,I 0,I 0,SV.raw (Value.int IntKind.u64 0),I 0,I 0,I 0,I 0,I 0,L none 0 0,L none 0 0,B false],I 11]) E'_13) else bif s'_13.snd !=(0:Int) then Sx.Alike al2 (Mem.le E E'_13/\K (SV.tup [SV.agg [I 0,I 0,I 0,I 0,I 0,I 0,I 0,I 0,I 0,I 0,I 0,L none 0 0,L none 0 0,L none 0 0,L none 0 0,B false,L none 0 0,L none 0 0,L none 0 0,I 0,I 0,SV.raw (Value.int IntKind.u64 0),I 0,I 0,I 0,I 0,I 0,L none 0 0,L none 0 0,B false],I s'_13.snd]) E'_13) else Mem.le E E'_13/\K (SV.tup [SV.agg [I v,I v_1,I v_2,I v_3,I v_4,I v_5,I v_6,I v_7,I v_8,I v_9,I v_10,L bs (List.length xs) cap,L bs_1 (List.length xs_1) cap_1,L bs_2 (List.length xs_2) cap_2,L bs_3 (List.length xs_3) cap_3,B (v_11==(1:Int)),L bs_4 (List.length xs_4) cap_4,L bs_5 (List.length xs_5) cap_5,L bs_6 (List.length xs_6) cap_6,I v_12,I v_13,SV.raw (Value.int IntKind.u64 (List.foldl dstep 0 ys)),I v_14,I v_15,I v_16,I 0,I 0,L none 0 0,L none 0 0,B (v_17==(1:Int))],I 0]) E'_13 else bif s'_13.snd !=(0:Int) then Sx.Alike al2 (Mem.le E E'_13/\K (SV.tup [SV.agg [I 0,I 0,I 0,I 0,I 0,I 0,I 0,I 0,I 0,I 0,I 0,L none 0 0,L none 0 0,L none 0 0,L none 0 0,B false,L none 0 0,L none 0 0,L none 0 0,I 0,I 0,SV.raw (Value.int IntKind.u64 0),I 0,I 0,I 0,I 0,I 0,L none 0 0,L none 0 0,B false],I s'_13.snd]) E'_13) else Mem.le E E'_13/\K (SV.tup [SV.agg [I v,I v_1,I v_2,I v_3,I v_4,I v_5,I v_6,I v_7,I v_8,I v_9,I v_10,L bs (List.length xs) cap,L bs_1 (List.length xs_1) cap_1,L bs_2 (List.length xs_2) cap_2,L bs_3 (List.length xs_3) cap_3,B (v_11==(1:Int)),L bs_4 (List.length xs_4) cap_4,L bs_5 (List.length xs_5) cap_5,L bs_6 (List.length xs_6) cap_6,I v_12,I v_13,SV.raw (Value.int IntKind.u64 (List.foldl dstep 0 ys)),I v_14,I v_15,I v_16,I 0,I 0,L none 0 0,L none 0 0,B (v_17==(1:Int))],I 0]) E'_13 else ∃ (zs:List Int),(((81:Nat)=(81:Nat)/\(3:Nat)=(3:Nat)/\Sx.Alike al2 (IntKind.i64=IntKind.i64))/\Bs E'_13 b l c zs/\l<=(100000:Nat)/\0<=s'_13.fst/\s'_13.fst<=(NI l))/\IntKind.i64=IntKind.i64/\((1:Nat)=(2:Nat)->False)/\∀ (v_18:Int) (s':Int×Int) (E':Mem),Mem.le E'_13 E'->Hyp (rnum zs (s'_13.fst,s'_13.snd) 0 (15:Int)=(v_18,s'))->0<=s'.fst/\s'.fst<=(NI l)->∃ (zs:List Int),(((81:Nat)=(81:Nat)/\(3:Nat)=(3:Nat)/\Sx.Alike al2 (IntKind.i64=IntKind.i64))/\Bs E' b l c zs/\l<=(100000:Nat)/\0<=s'.fst/\s'.fst<=(NI l))/\IntKind.i64=IntKind.i64/\((1:Nat)=(2:Nat)->False)/\∀ (v_19:Int) (s'_14:Int×Int) (E'_14:Mem),Mem.le E' E'_14->Hyp (rnum zs (s'.fst,s'.snd) 0 (1000000000:Int)=(v_19,s'_14))->0<=s'_14.fst/\s'_14.fst<=(NI l)->((1:Int)<=(16:Int)/\(16:Int)<=(1000:Int))/\∃ (zs:List Int),(((81:Nat)=(81:Nat)/\(3:Nat)=(3:Nat)/\Sx.Alike al2 (IntKind.i64=IntKind.i64))/\Bs E'_14 b l c zs/\l<=(100000:Nat)/\0<=s'_14.fst/\s'_14.fst<=(NI l))/\((1:Nat)=(2:Nat)->False)/\∀ (ys_1:List Int) (s':Int×Int) (b':Option Addr) (c':Nat) (E':Mem),Mem.le E'_14 E'->Hyp (rtake zs (s'_14.fst,s'_14.snd) (16:Int)=(ys_1,s'))->0<=s'.fst/\s'.fst<=(NI l)->Bs E' b' 16 c' ys_1->((79:Nat)=(79:Nat)/\(96:Nat)=(96:Nat))/\((129:Nat)=(129:Nat)/\(79:Nat)=(79:Nat)/\(1:Nat)=(1:Nat))/\∃ (zs:List Int),(((81:Nat)=(81:Nat)/\(3:Nat)=(3:Nat)/\Sx.Alike al2 (IntKind.i64=IntKind.i64))/\Bs E' b l c zs/\l<=(100000:Nat)/\0<=s'.fst/\s'.fst<=(NI l))/\SV.loc 1 (0:Nat)=SV.loc 1 (0:Nat)/\((40:Nat)=(40:Nat)/\(30:Nat)=(30:Nat)/\(28:Nat)=(28:Nat)/\(30:Nat)=(30:Nat))/\((0:Int)<=(5:Int)/\(5:Int)<=(60:Int))/\∀ (xs_7:List (List Int)) (s'_15:Int×Int) (bs_7:Option Addr) (cap_7:Nat) (E'_15:Mem),Mem.le E' E'_15->RdL 96 5 zs (s'.fst,s'.snd) xs_7 s'_15->0<=s'_15.fst/\s'_15.fst<=(NI l)->SL (RK IntKind.u64 1) E'_15 bs_7 (List.length xs_7) cap_7 xs_7->bif s'_15.snd==(0:Int) then bif bif true then decide (s'_15.fst<(NI l)) else false then Sx.Alike al2 (Mem.le E E'_15/\K (SV.tup [SV.agg [I 0,I 0,I 0,I 0,I 0,I 0,I 0,I 0,I 0,I 0,I 0,L none 0 0,L none 0 0,L none 0 0,L none 0 0,B false,L none 0 0,L none 0 0,L none 0 0,I 0,I 0,SV.raw (Value.int IntKind.u64 0),I 0,I 0,I 0,I 0,I 0,L none 0 0,L none 0 0,B false],I 11]) E'_15) else bif s'_15.snd !=(0:Int) then Sx.Alike al2 (Mem.le E E'_15/\K (SV.tup [SV.agg [I 0,I 0,I 0,I 0,I 0,I 0,I 0,I 0,I 0,I 0,I 0,L none 0 0,L none 0 0,L none 0 0,L none 0 0,B false,L none 0 0,L none 0 0,L none 0 0,I 0,I 0,SV.raw (Value.int IntKind.u64 0),I 0,I 0,I 0,I 0,I 0,L none 0 0,L none 0 0,B false],I s'_15.snd]) E'_15) else Mem.le E E'_15/\K (SV.tup [SV.agg [I v,I v_1,I v_2,I v_3,I v_4,I v_5,I v_6,I v_7,I v_8,I v_9,I v_10,L bs (List.length xs) cap,L bs_1 (List.length xs_1) cap_1,L bs_2 (List.length xs_2) cap_2,L bs_3 (List.length xs_3) cap_3,B (v_11==(1:Int)),L bs_4 (List.length xs_4) cap_4,L bs_5 (List.length xs_5) cap_5,L bs_6 (List.length xs_6) cap_6,I v_12,I v_13,SV.raw (Value.int IntKind.u64 (List.foldl dstep 0 ys)),I v_14,I v_15,I v_16,I v_18,I v_19,L b' 16 c',L bs_7 (List.length xs_7) cap_7,B (v_17==(1:Int))],I 0]) E'_15 else bif s'_15.snd !=(0:Int) then Sx.Alike al2 (Mem.le E E'_15/\K (SV.tup [SV.agg [I 0,I 0,I 0,I 0,I 0,I 0,I 0,I 0,I 0,I 0,I 0,L none 0 0,L none 0 0,L none 0 0,L none 0 0,B false,L none 0 0,L none 0 0,L none 0 0,I 0,I 0,SV.raw (Value.int IntKind.u64 0),I 0,I 0,I 0,I 0,I 0,L none 0 0,L none 0 0,B false],I s'_15.snd]) E'_15) else Mem.le E E'_15/\K (SV.tup [SV.agg [I v,I v_1,I v_2,I v_3,I v_4,I v_5,I v_6,I v_7,I v_8,I v_9,I v_10,L bs (List.length xs) cap,L bs_1 (List.length xs_1) cap_1,L bs_2 (List.length xs_2) cap_2,L bs_3 (List.length xs_3) cap_3,B (v_11==(1:Int)),L bs_4 (List.length xs_4) cap_4,L bs_5 (List.length xs_5) cap_5,L bs_6 (List.length xs_6) cap_6,I v_12,I v_13,SV.raw (Value.int IntKind.u64 (List.foldl dstep 0 ys)),I v_14,I v_15,I v_16,I v_18,I v_19,L b' 16 c',L bs_7 (List.length xs_7) cap_7,B (v_17==(1:Int))],I 0]) E'_15)
 delta NI
 have m0:=Mem.le_refl E
 have w0:(0:Int)<=(0:Int)/\(0:Int)<=(l:Int):=by omega
 refine ⟨zs,⟨⟨rfl,rfl,alike rfl⟩,hB.mono m0,hl,w0⟩,rfl,by decide,fun x0 s1 E1 e1 q1 w1=>?_⟩
 have q1:rnum zs (0,0) 0 59=(x0,s1):=q1
 have m1:=mt_ m0 e1
 refine ⟨zs,⟨⟨rfl,rfl,alike rfl⟩,hB.mono m1,hl,w1⟩,rfl,by decide,fun x1 s2 E2 e2 q2 w2=>?_⟩
 have q2:rnum zs s1 0 1000000000=(x1,s2):=q2
 have m2:=mt_ m1 e2
 refine ⟨zs,⟨⟨rfl,rfl,alike rfl⟩,hB.mono m2,hl,w2⟩,rfl,by decide,fun x2 s3 E3 e3 q3 w3=>?_⟩
 have q3:rnum zs s2 0 1000000000=(x2,s3):=q3
 have m3:=mt_ m2 e3
 refine ⟨zs,⟨⟨rfl,rfl,alike rfl⟩,hB.mono m3,hl,w3⟩,rfl,by decide,fun x3 s4 E4 e4 q4 w4=>?_⟩
 have q4:rnum zs s3 0 60=(x3,s4):=q4
 have m4:=mt_ m3 e4
 refine ⟨zs,⟨⟨rfl,rfl,alike rfl⟩,hB.mono m4,hl,w4⟩,rfl,by decide,fun x4 s5 E5 e5 q5 w5=>?_⟩
 have q5:rnum zs s4 0 2000=(x4,s5):=q5
 have m5:=mt_ m4 e5
 refine ⟨zs,⟨⟨rfl,rfl,alike rfl⟩,hB.mono m5,hl,w5⟩,rfl,by decide,fun x5 s6 E6 e6 q6 w6=>?_⟩
 have q6:rnum zs s5 0 1000000000=(x5,s6):=q6
 have m6:=mt_ m5 e6
 refine ⟨zs,⟨⟨rfl,rfl,alike rfl⟩,hB.mono m6,hl,w6⟩,rfl,by decide,fun x6 s7 E7 e7 q7 w7=>?_⟩
 have q7:rnum zs s6 0 1000000000=(x6,s7):=q7
 have m7:=mt_ m6 e7
 refine ⟨zs,⟨⟨rfl,rfl,alike rfl⟩,hB.mono m7,hl,w7⟩,rfl,by decide,fun x7 s8 E8 e8 q8 w8=>?_⟩
 have q8:rnum zs s7 0 1000000=(x7,s8):=q8
 have m8:=mt_ m7 e8
 refine ⟨zs,⟨⟨rfl,rfl,alike rfl⟩,hB.mono m8,hl,w8⟩,rfl,by decide,fun x8 s9 E9 e9 q9 w9=>?_⟩
 have q9:rnum zs s8 (-1) 59=(x8,s9):=q9
 have m9:=mt_ m8 e9
 refine ⟨zs,⟨⟨rfl,rfl,alike rfl⟩,hB.mono m9,hl,w9⟩,rfl,by decide,fun x9 s10 E10 e10 q10 w10=>?_⟩
 have q10:rnum zs s9 0 500002=(x9,s10):=q10
 have m10:=mt_ m9 e10
 refine ⟨zs,⟨⟨rfl,rfl,alike rfl⟩,hB.mono m10,hl,w10⟩,rfl,by decide,fun x10 s11 E11 e11 q11 w11=>?_⟩
 have q11:rnum zs s10 0 500002=(x10,s11):=q11
 have m11:=mt_ m10 e11
 refine ⟨⟨rfl,rfl⟩,⟨rfl,rfl,rfl⟩,zs,⟨⟨rfl,rfl,alike rfl⟩,hB.mono m11,hl,w11⟩,rfl,⟨rfl,rfl,rfl,rfl⟩,⟨by decide,by decide⟩,fun x11 s12 b11 c11 E12 e12 q12 w12 h11=>?_⟩
 have m12:=mt_ m11 e12
 refine ⟨⟨rfl,rfl⟩,⟨rfl,rfl,rfl⟩,zs,⟨⟨rfl,rfl,alike rfl⟩,hB.mono m12,hl,w12⟩,rfl,⟨rfl,rfl,rfl,rfl⟩,⟨by decide,by decide⟩,fun x12 s13 b12 c12 E13 e13 q13 w13 h12=>?_⟩
 have m13:=mt_ m12 e13
 refine ⟨⟨rfl,rfl⟩,⟨rfl,rfl,rfl⟩,zs,⟨⟨rfl,rfl,alike rfl⟩,hB.mono m13,hl,w13⟩,rfl,⟨rfl,rfl,rfl,rfl⟩,⟨by decide,by decide⟩,fun x13 s14 b13 c13 E14 e14 q14 w14 h13=>?_⟩
 have m14:=mt_ m13 e14
 refine ⟨⟨rfl,rfl⟩,⟨rfl,rfl,rfl⟩,zs,⟨⟨rfl,rfl,alike rfl⟩,hB.mono m14,hl,w14⟩,rfl,⟨rfl,rfl,rfl,rfl⟩,⟨by decide,by decide⟩,fun x14 s15 b14 c14 E15 e15 q15 w15 h14=>?_⟩
 have m15:=mt_ m14 e15
 refine ⟨rfl,zs,⟨⟨rfl,rfl,alike rfl⟩,hB.mono m15,hl,w15⟩,rfl,fun x15 s16 E16 e16 q16 w16=>?_⟩
 have q16:rnum zs s15 0 1=(x15,s16):=q16
 have m16:=mt_ m15 e16
 refine ⟨⟨rfl,rfl⟩,⟨rfl,rfl,rfl⟩,zs,⟨⟨rfl,rfl,alike rfl⟩,hB.mono m16,hl,w16⟩,rfl,⟨rfl,rfl,Or.inl rfl,rfl⟩,⟨by decide,by decide⟩,fun x16 s17 b16 c16 E17 e17 q17 w17 h16=>?_⟩
 have m17:=mt_ m16 e17
 refine ⟨⟨rfl,rfl⟩,⟨rfl,rfl,rfl⟩,zs,⟨⟨rfl,rfl,alike rfl⟩,hB.mono m17,hl,w17⟩,rfl,⟨rfl,rfl,Or.inr rfl,rfl⟩,⟨by decide,by decide⟩,fun x17 s18 b17 c17 E18 e18 q18 w18 h17=>?_⟩
 have m18:=mt_ m17 e18
 refine ⟨⟨rfl,rfl⟩,⟨rfl,rfl,rfl⟩,zs,⟨⟨rfl,rfl,alike rfl⟩,hB.mono m18,hl,w18⟩,rfl,⟨rfl,rfl,rfl,rfl⟩,⟨by decide,by decide⟩,fun x18 s19 b18 c18 E19 e19 q19 w19 h18=>?_⟩
 have m19:=mt_ m18 e19
 refine ⟨zs,⟨⟨rfl,rfl,alike rfl⟩,hB.mono m19,hl,w19⟩,rfl,by decide,fun x19 s20 E20 e20 q20 w20=>?_⟩
 have q20:rnum zs s19 0 1000000000=(x19,s20):=q20
 have m20:=mt_ m19 e20
 refine ⟨zs,⟨⟨rfl,rfl,alike rfl⟩,hB.mono m20,hl,w20⟩,rfl,by decide,fun x20 s21 E21 e21 q21 w21=>?_⟩
 have q21:rnum zs s20 0 4096=(x20,s21):=q21
 have m21:=mt_ m20 e21
 refine ⟨zs,⟨⟨rfl,rfl,alike rfl⟩,hB.mono m21,hl,w21⟩,rfl,by decide,fun x21 s22 E22 e22 q22 w22=>?_⟩
 have q22:rtake zs s21 8=(x21,s22):=q22
 have m22:=mt_ m21 e22
 refine ⟨zs,⟨⟨rfl,rfl,alike rfl⟩,hB.mono m22,hl,w22⟩,rfl,by decide,fun x22 s23 E23 e23 q23 w23=>?_⟩
 have q23:rnum zs s22 0 1000000000=(x22,s23):=q23
 have m23:=mt_ m22 e23
 refine ⟨zs,⟨⟨rfl,rfl,alike rfl⟩,hB.mono m23,hl,w23⟩,rfl,by decide,fun x23 s24 E24 e24 q24 w24=>?_⟩
 have q24:rnum zs s23 0 16=(x23,s24):=q24
 have m24:=mt_ m23 e24
 refine ⟨zs,⟨⟨rfl,rfl,alike rfl⟩,hB.mono m24,hl,w24⟩,rfl,by decide,fun x24 s25 E25 e25 q25 w25=>?_⟩
 have q25:rnum zs s24 0 1000000000=(x24,s25):=q25
 have m25:=mt_ m24 e25
 refine ⟨rfl,zs,⟨⟨rfl,rfl,alike rfl⟩,hB.mono m25,hl,w25⟩,rfl,fun x29 s26 E26 e26 q26 w26=>?_⟩
 have q26:rnum zs s25 0 1=(x29,s26):=q26
 have m26:=mt_ m25 e26
 refine condC (fun g=>?_) (fun g=>?_)
 ·have g:(x29==1)=false:=by simpa using g
  refine ⟨zs,⟨⟨rfl,rfl,alike rfl⟩,hB.mono m26,hl,w26⟩,rfl,by decide,zs,⟨⟨rfl,rfl,alike rfl⟩,hB.mono m26,hl,w26⟩,rfl,by decide,zs,⟨⟨rfl,rfl,alike rfl⟩,hB.mono m26,hl,w26⟩,rfl,by decide,?_⟩
  have fin:=h ⟨x0,x1,x2,x3,x4,x5,x6,x7,x8,x9,x10,x11,x12,x13,x14,(x15==1),x16,x17,x18,x19,x20,(x21.foldl dstep 0),x22,x23,x24,0,0,[],[],(x29==1)⟩ s26 b11 _ c11 b12 _ c12 b13 _ c13 b14 _ c14 b16 _ c16 b17 _ c17 b18 _ c18 none 0 0 none 0 0 E26 m26 ⟨s1,s2,s3,s4,s5,s6,s7,s8,s9,s10,s11,s12,s13,s14,s15,s16,s17,s18,s19,s20,s21,s22,s23,s24,s25,s26,x15,x29,⟨q1,q2,q3,q4,q5,q6,q7,q8,q9,q10,q11,q12.eq,q13.eq,q14.eq,q15.eq,⟨q16,rfl⟩,q17.eq,q18.eq,q19.eq,q20,q21,(by unfold rdig;rw [q22]),q23,q24,q25,⟨q26,rfl⟩⟩,by show if (x29==1)=true then _ else _;rw [if_neg (by rw [g];exact Bool.false_ne_true)];exact ⟨rfl,rfl,rfl,rfl,rfl⟩⟩ w26 ⟨h11.mono (RK_ok .i64 (by decide)) ((mt_ e13 (mt_ e14 (mt_ e15 (mt_ e16 (mt_ e17 (mt_ e18 (mt_ e19 (mt_ e20 (mt_ e21 (mt_ e22 (mt_ e23 (mt_ e24 (mt_ e25 e26)))))))))))))),h12.mono (RK_ok .i64 (by decide)) ((mt_ e14 (mt_ e15 (mt_ e16 (mt_ e17 (mt_ e18 (mt_ e19 (mt_ e20 (mt_ e21 (mt_ e22 (mt_ e23 (mt_ e24 (mt_ e25 e26))))))))))))),h13.mono (RK_ok .i64 (by decide)) ((mt_ e15 (mt_ e16 (mt_ e17 (mt_ e18 (mt_ e19 (mt_ e20 (mt_ e21 (mt_ e22 (mt_ e23 (mt_ e24 (mt_ e25 e26)))))))))))),h14.mono (RK_ok .i64 (by decide)) ((mt_ e16 (mt_ e17 (mt_ e18 (mt_ e19 (mt_ e20 (mt_ e21 (mt_ e22 (mt_ e23 (mt_ e24 (mt_ e25 e26))))))))))),h16.mono (RK_ok .i64 (by decide)) ((mt_ e18 (mt_ e19 (mt_ e20 (mt_ e21 (mt_ e22 (mt_ e23 (mt_ e24 (mt_ e25 e26))))))))),h17.mono (RK_ok .i64 (by decide)) ((mt_ e19 (mt_ e20 (mt_ e21 (mt_ e22 (mt_ e23 (mt_ e24 (mt_ e25 e26)))))))),h18.mono (RK_ok .i64 (by decide)) ((mt_ e20 (mt_ e21 (mt_ e22 (mt_ e23 (mt_ e24 (mt_ e25 e26))))))),Bs.nil _,SL.nil⟩
  refine condC (fun g1=>?_) (fun g1=>?_)
  ·rw [if_pos (by simpa using g1)] at fin
   refine condC (fun g2=>?_) (fun g2=>condC (fun g3=>absurd g1 (by simpa using g3)) (fun _=>?_))
   ·rw [if_pos (by simpa using g2)] at fin
    exact alike (by exact ⟨m26,fin⟩)
   ·rw [if_neg (by simpa using g2)] at fin
    exact ⟨m26,fin⟩
  ·rw [if_neg (by simpa using g1)] at fin
   exact condC (fun g3=>alike (by exact ⟨m26,fin⟩)) (fun g3=>absurd g3 (by simpa using g1))
 ·have g:(x29==1)=true:=by simpa using g
  refine ⟨zs,⟨⟨rfl,rfl,alike rfl⟩,hB.mono m26,hl,w26⟩,rfl,by decide,fun x25 s27 E27 e27 q27 w27=>?_⟩
  have q27:rnum zs s26 0 15=(x25,s27):=q27
  have m27:=mt_ m26 e27
  refine ⟨zs,⟨⟨rfl,rfl,alike rfl⟩,hB.mono m27,hl,w27⟩,rfl,by decide,fun x26 s28 E28 e28 q28 w28=>?_⟩
  have q28:rnum zs s27 0 1000000000=(x26,s28):=q28
  have m28:=mt_ m27 e28
  refine ⟨⟨by decide,by decide⟩,zs,⟨⟨rfl,rfl,alike rfl⟩,hB.mono m28,hl,w28⟩,by decide,fun x27 s29 b27 c27 E29 e29 q29 w29 h27=>?_⟩
  have q29:rtake zs s28 16=(x27,s29):=q29
  have m29:=mt_ m28 e29
  refine ⟨⟨rfl,rfl⟩,⟨rfl,rfl,rfl⟩,zs,⟨⟨rfl,rfl,alike rfl⟩,hB.mono m29,hl,w29⟩,rfl,⟨rfl,rfl,rfl,rfl⟩,⟨by decide,by decide⟩,fun x28 s30 b28 c28 E30 e30 q30 w30 h28=>?_⟩
  have m30:=mt_ m29 e30
  have fin:=h ⟨x0,x1,x2,x3,x4,x5,x6,x7,x8,x9,x10,x11,x12,x13,x14,(x15==1),x16,x17,x18,x19,x20,(x21.foldl dstep 0),x22,x23,x24,x25,x26,x27,x28,(x29==1)⟩ s30 b11 _ c11 b12 _ c12 b13 _ c13 b14 _ c14 b16 _ c16 b17 _ c17 b18 _ c18 b27 16 c27 b28 _ c28 E30 m30 ⟨s1,s2,s3,s4,s5,s6,s7,s8,s9,s10,s11,s12,s13,s14,s15,s16,s17,s18,s19,s20,s21,s22,s23,s24,s25,s26,x15,x29,⟨q1,q2,q3,q4,q5,q6,q7,q8,q9,q10,q11,q12.eq,q13.eq,q14.eq,q15.eq,⟨q16,rfl⟩,q17.eq,q18.eq,q19.eq,q20,q21,(by unfold rdig;rw [q22]),q23,q24,q25,⟨q26,rfl⟩⟩,by show if (x29==1)=true then _ else _;rw [if_pos g];exact ⟨s27,s28,s29,⟨q27,q28,q29,q30.eq⟩⟩⟩ w30 ⟨h11.mono (RK_ok .i64 (by decide)) ((mt_ e13 (mt_ e14 (mt_ e15 (mt_ e16 (mt_ e17 (mt_ e18 (mt_ e19 (mt_ e20 (mt_ e21 (mt_ e22 (mt_ e23 (mt_ e24 (mt_ e25 (mt_ e26 (mt_ e27 (mt_ e28 (mt_ e29 e30)))))))))))))))))),h12.mono (RK_ok .i64 (by decide)) ((mt_ e14 (mt_ e15 (mt_ e16 (mt_ e17 (mt_ e18 (mt_ e19 (mt_ e20 (mt_ e21 (mt_ e22 (mt_ e23 (mt_ e24 (mt_ e25 (mt_ e26 (mt_ e27 (mt_ e28 (mt_ e29 e30))))))))))))))))),h13.mono (RK_ok .i64 (by decide)) ((mt_ e15 (mt_ e16 (mt_ e17 (mt_ e18 (mt_ e19 (mt_ e20 (mt_ e21 (mt_ e22 (mt_ e23 (mt_ e24 (mt_ e25 (mt_ e26 (mt_ e27 (mt_ e28 (mt_ e29 e30)))))))))))))))),h14.mono (RK_ok .i64 (by decide)) ((mt_ e16 (mt_ e17 (mt_ e18 (mt_ e19 (mt_ e20 (mt_ e21 (mt_ e22 (mt_ e23 (mt_ e24 (mt_ e25 (mt_ e26 (mt_ e27 (mt_ e28 (mt_ e29 e30))))))))))))))),h16.mono (RK_ok .i64 (by decide)) ((mt_ e18 (mt_ e19 (mt_ e20 (mt_ e21 (mt_ e22 (mt_ e23 (mt_ e24 (mt_ e25 (mt_ e26 (mt_ e27 (mt_ e28 (mt_ e29 e30))))))))))))),h17.mono (RK_ok .i64 (by decide)) ((mt_ e19 (mt_ e20 (mt_ e21 (mt_ e22 (mt_ e23 (mt_ e24 (mt_ e25 (mt_ e26 (mt_ e27 (mt_ e28 (mt_ e29 e30)))))))))))),h18.mono (RK_ok .i64 (by decide)) ((mt_ e20 (mt_ e21 (mt_ e22 (mt_ e23 (mt_ e24 (mt_ e25 (mt_ e26 (mt_ e27 (mt_ e28 (mt_ e29 e30))))))))))),h27.mono (e30),h28.mono (RK_ok .u64 (by decide)) (mr_)⟩
  refine condC (fun g1=>?_) (fun g1=>?_)
  ·rw [if_pos (by simpa using g1)] at fin
   refine condC (fun g2=>?_) (fun g2=>condC (fun g3=>absurd g1 (by simpa using g3)) (fun _=>?_))
   ·rw [if_pos (by simpa using g2)] at fin
    exact alike (by exact ⟨m30,fin⟩)
   ·rw [if_neg (by simpa using g2)] at fin
    exact ⟨m30,fin⟩
  ·rw [if_neg (by simpa using g1)] at fin
   exact condC (fun g3=>alike (by exact ⟨m30,fin⟩)) (fun g3=>absurd g3 (by simpa using g1))
end Go.Proofs.Ytnjmojacdkjfoaa.BeaconOwn
