/- The law's proof: for every input the law answers true. Conditions: none. -/
import Derived.Test.YtdaakdbkmjgloaaCp3
import Derived.Test.YtdaakdbkmjgloaaRows
namespace Go.Proofs.Ytdaakdbkmjgloaa.CustodyOwn
open Go Go.Sx Go.Proofs.Ytdaakdbkmjgloaa
set_option maxRecDepth 100000
set_option maxHeartbeats 4000000
set_option linter.unusedVariables false
set_option linter.unusedSimpArgs false
variable {E:Mem} {K:SV->Mem->Prop}
noncomputable def tabL3:FuncId->List SV->Mem->(SV->Mem->Prop)->Prop:=fun f args E K=>match f with
 | 7=>d0 args ((∀ E':Mem,Mem.le E E'->K (B true) E'))
 | 8=>d2 args fun x0 x1=>dC x0 fun l1=>d2 l1 fun x0_0 x0_1=>dI x0_0 fun a1=>dS x0_1 fun b2 l3 c4=>dI x1 fun a5=>∃ (zs:List Int),Bs E b2 l3 c4 zs/\(∀ (b':Option Addr) (l' c':Nat) (xs:List (List Int)) (cnt e:Int) (E':Mem),Mem.le E E'->Hyp (heldF a5 a1 zs=((xs,cnt),e))->SL (RK .i64 5) E' b' l' c' xs->l'<=16->K (.tup [L b' l' c',I cnt,I e]) E')
 | 9=>d3 args fun x0 x1 x2=>dC x0 fun l1=>d2 l1 fun x0_0 x0_1=>dI x0_0 fun a1=>dS x0_1 fun b2 l3 c4=>dI x1 fun a5=>dC x2 fun l2=>d5 l2 fun x2_0 x2_1 x2_2 x2_3 x2_4=>dI x2_0 fun a6=>dI x2_1 fun a7=>dI x2_2 fun a8=>dI x2_3 fun a9=>dI x2_4 fun a10=>∃ (zs:List Int),Bs E b2 l3 c4 zs/\(∀ (b':Option Addr) (l' c':Nat) (ms:List (Int×List Int)) (e:Int) (E':Mem),Mem.le E E'->Hyp (takeF a5 a1 zs a6 a7 a8 a9 a10=(ms,e))->FL E' b' l' c' ms->K (.tup [L b' l' c',I e]) E')
 | 11=>d4 args fun x0 x1 x2 x3=>dC x0 fun l1=>d2 l1 fun x0_0 x0_1=>dI x0_0 fun a1=>dS x0_1 fun b2 l3 c4=>dI x1 fun a5=>dI x2 fun a6=>dI x3 fun a7=>∃ (zs:List Int),Bs E b2 l3 c4 zs/\(∀ (b':Option Addr) (l' c':Nat) (ms:List (Int×List Int)) (e:Int) (E':Mem),Mem.le E E'->Hyp (giveF a5 a1 zs a6 a7=(ms,e))->FL E' b' l' c' ms->K (.tup [L b' l' c',I e]) E')
 | 10=>d6 args fun x0 x1 x2 x3 x4 x5=>dS x0 fun b1 l2 c3=>dI x1 fun a4=>dS x2 fun b5 l6 c7=>dI x3 fun a8=>dS x4 fun b9 l10 c11=>dI x5 fun a12=>∃ (ms:List (Int×List Int)) (before:List (List Int)) (after:List (List Int)),FL E b1 l2 c3 ms/\SL (RK .i64 5) E b5 l6 c7 before/\SL (RK .i64 5) E b9 l10 c11 after/\l2<=100000/\(0<ms.length/\∀ (i:Nat) (m:Int×List Int),ms[i]? =some m->heldF a4 m.1 m.2=(if i+1=ms.length then (after,a12) else (before,a8),0))/\(∀ E':Mem,Mem.le E E'->K (B true) E')
 | 12=>d3 args fun x0 x1 x2=>dS x0 fun b1 l2 c3=>dI x1 fun a4=>dI x2 fun a5=>∃ (xs:List (List Int)),SL (RK .i64 5) E b1 l2 c3 xs/\l2<=1000000/\(∀ (b':Option Addr) (l' c':Nat) (ys:List (List Int)) (E':Mem),Mem.le E E'->Hyp (ys=xs.filter fun x=> !isN a4 a5 x)->SL (RK .i64 5) E' b' l' c' ys->K (L b' l' c') E')
 | _=>False
theorem tabL3_ok:TabOK Try.prog tabL3:=by
 intro f args E K h
 unfold tabL3 at h
 split at h
 ·obtain ⟨rfl,h⟩:=d0_elim h
  exact TabSem.congr rfl (esm okQM Try.func7 rfl (c7 h))
 ·replace h:=d2_elim h
  obtain ⟨x0,x1,rfl,h⟩:=h
  replace h:=dC_elim h
  obtain ⟨l1,hl1,h⟩:=h
  replace h:=d2_elim h
  obtain ⟨x0_0,x0_1,rfl,h⟩:=h
  replace h:=dI_elim h
  obtain ⟨a1,rfl,h⟩:=h
  replace h:=dS_elim h
  obtain ⟨b2,l3,c4,rfl,h⟩:=h
  replace h:=dI_elim h
  obtain ⟨a5,rfl,h⟩:=h
  obtain ⟨zs,g0,h⟩:=h
  exact TabSem.congr (valL_cons (asCells_val hl1) (valL_cons rfl rfl)) (esm okQE Try.func8 rfl (c8 g0 h))
 ·replace h:=d3_elim h
  obtain ⟨x0,x1,x2,rfl,h⟩:=h
  replace h:=dC_elim h
  obtain ⟨l1,hl1,h⟩:=h
  replace h:=d2_elim h
  obtain ⟨x0_0,x0_1,rfl,h⟩:=h
  replace h:=dI_elim h
  obtain ⟨a1,rfl,h⟩:=h
  replace h:=dS_elim h
  obtain ⟨b2,l3,c4,rfl,h⟩:=h
  replace h:=dI_elim h
  obtain ⟨a5,rfl,h⟩:=h
  replace h:=dC_elim h
  obtain ⟨l2,hl2,h⟩:=h
  replace h:=d5_elim h
  obtain ⟨x2_0,x2_1,x2_2,x2_3,x2_4,rfl,h⟩:=h
  replace h:=dI_elim h
  obtain ⟨a6,rfl,h⟩:=h
  replace h:=dI_elim h
  obtain ⟨a7,rfl,h⟩:=h
  replace h:=dI_elim h
  obtain ⟨a8,rfl,h⟩:=h
  replace h:=dI_elim h
  obtain ⟨a9,rfl,h⟩:=h
  replace h:=dI_elim h
  obtain ⟨a10,rfl,h⟩:=h
  obtain ⟨zs,g0,h⟩:=h
  exact TabSem.congr (valL_cons (asCells_val hl1) (valL_cons rfl (valL_cons (asCells_val hl2) rfl))) (esm okQG Try.func9 rfl (c9 g0 h))
 ·replace h:=d4_elim h
  obtain ⟨x0,x1,x2,x3,rfl,h⟩:=h
  replace h:=dC_elim h
  obtain ⟨l1,hl1,h⟩:=h
  replace h:=d2_elim h
  obtain ⟨x0_0,x0_1,rfl,h⟩:=h
  replace h:=dI_elim h
  obtain ⟨a1,rfl,h⟩:=h
  replace h:=dS_elim h
  obtain ⟨b2,l3,c4,rfl,h⟩:=h
  replace h:=dI_elim h
  obtain ⟨a5,rfl,h⟩:=h
  replace h:=dI_elim h
  obtain ⟨a6,rfl,h⟩:=h
  replace h:=dI_elim h
  obtain ⟨a7,rfl,h⟩:=h
  obtain ⟨zs,g0,h⟩:=h
  exact TabSem.congr (valL_cons (asCells_val hl1) (valL_cons rfl (valL_cons rfl (valL_cons rfl rfl)))) (esm okQG Try.func11 rfl (c11 g0 h))
 ·replace h:=d6_elim h
  obtain ⟨x0,x1,x2,x3,x4,x5,rfl,h⟩:=h
  replace h:=dS_elim h
  obtain ⟨b1,l2,c3,rfl,h⟩:=h
  replace h:=dI_elim h
  obtain ⟨a4,rfl,h⟩:=h
  replace h:=dS_elim h
  obtain ⟨b5,l6,c7,rfl,h⟩:=h
  replace h:=dI_elim h
  obtain ⟨a8,rfl,h⟩:=h
  replace h:=dS_elim h
  obtain ⟨b9,l10,c11,rfl,h⟩:=h
  replace h:=dI_elim h
  obtain ⟨a12,rfl,h⟩:=h
  obtain ⟨ms,before,after,g0,g1,g2,g3,g4,h⟩:=h
  exact TabSem.congr (valL_cons rfl (valL_cons rfl (valL_cons rfl (valL_cons rfl (valL_cons rfl (valL_cons rfl rfl)))))) (esm okQK Try.func10 rfl (c10 g0 g1 g2 g3 g4 h))
 ·replace h:=d3_elim h
  obtain ⟨x0,x1,x2,rfl,h⟩:=h
  replace h:=dS_elim h
  obtain ⟨b1,l2,c3,rfl,h⟩:=h
  replace h:=dI_elim h
  obtain ⟨a4,rfl,h⟩:=h
  replace h:=dI_elim h
  obtain ⟨a5,rfl,h⟩:=h
  obtain ⟨xs,g0,g1,h⟩:=h
  exact TabSem.congr (valL_cons rfl (valL_cons rfl (valL_cons rfl rfl))) (esm okQ8 Try.func12 rfl (c12 g0 g1 h))
 ·exact h.elim
noncomputable def WL3:Cx:={ P:=Try.prog,inl:=fun f=>List.contains [] f,tab:=tabL3,isB:=fun _=>false,tabB:=fun _ _ _ _ _=>False,opt:={ unroll:=0,carry:=[9,15],cuts:=[10,12] },muts:=(fun o=>match o with | .buildSlice .. =>true| .makeSlice .. =>true|o=>mutsD o) }
theorem okWL3:CxOK WL3:=CxOK.four tabL3_ok (by kernel_rfl) (okInl (by kernel_rfl)) (fun _ _ _ _ _ h=>h.elim)
def sB3 (a1 me w cnt:Int) (b1 b:Option Addr) (l1 c1 l c:Nat) (E:Mem):St:=⟨[none,oI me,none,oI w,oc 0 0,none,none,none,none,oB true,oL b l c,oI cnt,none,none,none,none,none,none,none,none,none,none,none,none,none,none,none,none,none,none,none,none,none,none,none,none,none,none,none,none,none,none,none,none,none,none,none,none,none,none,none,none,none,none,none,none,none,none,none,none,none,none,none,none,none,none,none,none,none,none,none,none,none,none,none,none,none,none,none,none,none,none,none,none,none,none,none,none,none,none,none,none,none,none,none,none,none,none,none,none,none,none,none,none,none,none,none,none,none,none,none,none,none,none,none,none,none,none,none,none,none,none,none,none,none,none],[⟨24,.lst [I a1,L b1 l1 c1],2,true⟩],E⟩
def sA3 (a1 me w cnt o n k v a th:Int) (b1 b bm:Option Addr) (l1 c1 l c lm cm:Nat) (E:Mem):St:=⟨[none,oI me,none,oI w,oc 0 0,none,oc 1 0,none,none,oB true,oL b l c,oI cnt,none,oL bm lm cm,none,oI th,none,none,none,none,none,none,none,none,none,none,none,none,none,none,none,none,none,none,none,none,none,none,none,none,none,none,none,none,none,none,none,none,none,none,none,none,none,none,none,none,none,none,none,none,none,none,none,none,none,none,none,none,none,none,none,none,none,none,none,none,none,none,none,none,none,none,none,none,none,none,none,none,none,none,none,none,none,none,none,none,none,none,none,none,none,none,none,none,none,none,none,none,none,none,none,none,none,none,none,none,none,none,none,none,none,none,none,none,none,none],[⟨24,.lst [I a1,L b1 l1 c1],2,true⟩,⟨26,.lst [I o,I n,I k,I v,I a],5,true⟩],E⟩
theorem pB3 {a1 me w cnt:Int} {b1 b:Option Addr} {l1 c1 l c:Nat} {z1:List Int} {xs:List (List Int)} {E0:Mem} (hB:Bs E b1 l1 c1 z1) (h1:SL (RK .i64 5) E b l c xs) (hl:l<=16) (hh:heldF me a1 z1=((xs,cnt),0)) (hE:Mem.le E0 E) (h:∀ E':Mem,Mem.le E E'->K (B true) E'):Pc WL3 8 Try.f3 [1,1,1,1,1,1] 0 (pubK E0 K) (sB3 a1 me w cnt b1 b l1 c1 l c E):=by
 refine sm_ (?_:bif (↑l:Int)==(0:Int) then Mem.le E0 E/\K (B true) E else bif bif false then true else decide (w<(0:Int)) then Mem.le E0 E/\K (B true) E else ((↑l:Int)=(0:Int)->False)/\req ((0:Int)<=Int.tmod w (↑l:Int)/\Int.tmod w (↑l:Int)<(↑l:Int)) ((∃ (cs:List Value),E (Value.slice b l c) cs/\(cs=[]->False))/\∃ (n:Int),∃ (n_1:Int),∃ (n_2:Int),∃ (n_3:Int),∃ (n_4:Int),LoadE WL3.P E 26 (Value.slice b l c) (Int.toNat (Int.tmod w (↑l:Int))*5) (SV.agg [I n,I n_1,I n_2,I n_3,I n_4])/\∃ (zs:List Int),Bs E b1 l1 c1 zs/\∀ (b':Option Addr) (l' c':Nat) (ms:List (Int×List Int)) (e:Int) (E':Mem),Mem.le E E'->Hyp (giveF me a1 zs n n_1=(ms,e))->FL E' b' l' c' ms->Mem.le E E'/\bif e !=(0:Int) then Mem.le E0 E'/\K (B (bif true then e==(10:Int) else false)) E' else ∃ (xs:List (List Int)),SL (RK IntKind.i64 5) E' b l c xs/\l<=1000000/\∀ (b'_1:Option Addr) (l'_1 c'_1:Nat) (ys:List (List Int)) (E'_1:Mem),Mem.le E' E'_1->Hyp (ys=List.filter (fun (x:List Int)=> !isN n n_1 x) xs)->SL (RK IntKind.i64 5) E'_1 b'_1 l'_1 c'_1 ys->Mem.le E' E'_1/\∃ (ms:List (Int×List Int)),∃ (before:List (List Int)),∃ (after:List (List Int)),FL E'_1 b' l' c' ms/\SL (RK IntKind.i64 5) E'_1 b l c before/\SL (RK IntKind.i64 5) E'_1 b'_1 l'_1 c'_1 after/\l'<=100000/\(0<List.length ms/\∀ (i:Nat) (m:Int×List Int),ms[i]? =some m->heldF me m.fst m.snd=(if i+1=List.length ms then (after,cnt) else (before,cnt),(0:Int)))/\∀ (E':Mem),Mem.le E'_1 E'->Mem.le E'_1 E'/\Mem.le E0 E'/\K (B true) E'))
 have n1:=h1.len
 have bz:=hB.2.2.2.1
 refine condC (fun _=>⟨hE,h E mr_⟩) (fun g=>condC (fun _=>⟨hE,h E mr_⟩) (fun g2=>?_))
 have g:0<l:=by simp at g;omega
 have g2:0<=w:=by simpa using g2
 obtain ⟨i,hi1,hi2⟩:∃ i:Nat,Int.tmod w (l:Int)=(i:Nat)/\i<l:=by
  have:=Int.emod_nonneg w (show (l:Int)≠0 by omega)
  have:=Int.emod_lt_of_pos w (show 0<(l:Int) by omega)
  exact ⟨(w % (l:Int)).toNat,by rw [Int.tmod_eq_emod_of_nonneg (by omega)];omega,by omega⟩
 obtain ⟨x,hx⟩:∃ x,xs[i]? =some x:=⟨_,List.getElem?_eq_getElem (by omega)⟩
 obtain ⟨o1,o2,o3,o4,o5,ex,l5⟩:=rowK5 (T:=26) h1 rfl rfl hx
 rw [hi1]
 refine ⟨by omega,req_intro (by omega) ⟨SL.ne (RK_ok .i64 (by decide)) h1 hi2,o1,o2,o3,o4,o5,l5,z1,hB,fun b' l' c' ms e E1 k1 q1 F=>⟨k1,?_⟩⟩⟩
 have q1:giveF me a1 z1 o1 o2=(ms,e):=q1
 have gn:=give_num me a1 z1 o1 o2
 rw [q1] at gn
 have gn:ms.length<=40000:=gn
 have lF:=F.len
 rcases give_reads bz hh q1 with ⟨_,r2,_⟩|⟨_,r2,r3,r4⟩
 ·have:=r2 x (List.mem_of_getElem? hx)
  rw [ex] at this
  have :isN o1 o2 [o1,o2,o3,o4,o5]=false:=this
  have t:isN o1 o2 [o1,o2,o3,o4,o5]=true:=isN_iff.2 ⟨rfl,rfl⟩
  rw [this] at t;cases t
 ·refine condC (fun ge=>⟨mt_ hE k1,?_⟩) (fun ge=>?_)
  ·have e10:e=10:=by
    have ge:e≠0:=by simpa using ge
    rcases r2 with r2|r2
    ·exact absurd r2 ge
    ·exact r2
   subst e10
   exact h E1 k1
  ·have ge:e=0:=by simpa using ge
   refine ⟨xs,h1.mono (RK_ok .i64 (by decide)) k1,by omega,fun b3 l3 c3 ys E2 k2 q2 S2=>⟨k2,ms,xs,ys,F.mono k2,(h1.mono (RK_ok .i64 (by decide)) k1).mono (RK_ok .i64 (by decide)) k2,S2,by omega,⟨r3.1 ge,fun i m hm=>?_⟩,fun E3 k3=>⟨k3,mt_ hE (mt_ k1 (mt_ k2 k3)),h E3 (mt_ k1 (mt_ k2 k3))⟩⟩⟩
   rw [r4 i m hm,show ys=xs.filter (fun x=> !isN o1 o2 x) from q2]
theorem pA3 {a1 me w cnt:Int} {b1 b:Option Addr} {l1 c1 l c:Nat} {z1:List Int} {xs:List (List Int)} {E0:Mem} {o n k v a th:Int} {bm:Option Addr} {lm cm:Nat} {ms:List (Int×List Int)} (hB:Bs E b1 l1 c1 z1) (h1:SL (RK .i64 5) E b l c xs) (hl:l<=16) (hh:heldF me a1 z1=((xs,cnt),0)) (hE:Mem.le E0 E) (h:∀ E':Mem,Mem.le E E'->K (B true) E') (FM:FL E bm lm cm ms) (hlm:lm<=100000) (hT:0<ms.length/\∀ (i:Nat) (m:Int×List Int),ms[i]? =some m->heldF me m.1 m.2=(if i+1=ms.length then (xs++[[o,n,k,v,a]],th) else (xs,cnt),0)):Pc WL3 8 Try.f3 [1,1,1,1,1,0,1,0,1,1] 0 (pubK E0 K) (sA3 a1 me w cnt o n k v a th b1 b bm l1 c1 l c lm cm E):=by
 refine sm_ (?_:((∃ (cs:List Value),(cs=[]\/E (VS b l c) cs)/\l*5<=List.length cs/\(∀ (x:Value),List.Mem x cs->Value.oneCell' x=true)/\0<=100/\100<=100/\0<=20/\req ((0+l)*40<=140737488355328) (∀ (cap' tot':Nat),0+l<=cap'->cap'*5<=tot'->(0+l)*5<=List.length (Row.cells (Row.vals (List.take 0 (zerosV [Value.int IntKind.i64 0,Value.int IntKind.i64 0,Value.int IntKind.i64 0,Value.int IntKind.i64 0,Value.int IntKind.i64 0] 20)++List.take (l*5) cs)))/\cap'*5<=tot'/\0+l<=cap'/\req ((0+l+1)*40<=140737488355328) (∀ (cap'_1 tot':Nat),0+l+1<=cap'_1->cap'_1*5<=tot'->∀ (base:Option Addr) (E':Mem),Mem.le E E'->WinE E' base (List.take ((0+l)*5) (List.take 0 (zerosV [Value.int IntKind.i64 0,Value.int IntKind.i64 0,Value.int IntKind.i64 0,Value.int IntKind.i64 0,Value.int IntKind.i64 0] 20)++List.take (l*5) cs)++[Value.int IntKind.i64 o,Value.int IntKind.i64 n,Value.int IntKind.i64 k,Value.int IntKind.i64 v,Value.int IntKind.i64 a])->∃ (ms:List (Int×List Int)),∃ (before:List (List Int)),∃ (after:List (List Int)),FL E' bm lm cm ms/\SL (RK IntKind.i64 5) E' b l c before/\SL (RK IntKind.i64 5) E' (Option.map (fun (x:Addr)=>Addr.add x 0) base) (0+l+1) cap'_1 after/\lm<=100000/\(0<List.length ms/\∀ (i:Nat) (m:Int×List Int),ms[i]? =some m->heldF me m.fst m.snd=(if i+1=List.length ms then (after,th) else (before,cnt),(0:Int)))/\∀ (E'_1:Mem),Mem.le E' E'_1->Ct WL3 8 Try.f3 [1,1,1,1,1,1] 0 (pubK E0 K) { fr:=none::oI me::none::oI w::oc 0 0::none::oc 1 0::none::none::oB true::oL b l c::oI cnt::none::oL bm lm cm::none::oI th::oB true::no32 (no8 (no4 (none::(oL bm lm cm::oI me::oL b l c::oI cnt::os 2 0 0 20::oL b l c::os 3 0 (0+l) cap'::some (SV.agg [I o,I n,I k,I v,I a])::os 4 0 1 1::os 5 0 (0+l+1) cap'_1::oI th::oB true::oB true::oB true::oB true::oB true::no32 (no16 []))))),bx:=[(⟨24,.lst [I a1,L b1 l1 c1],2,true⟩:Box),⟨26,.lst [I o,I n,I k,I v,I a],5,true⟩,⟨26,.lst [],0,false⟩,⟨26,.lst [],0,false⟩,⟨26,.lst [I o,I n,I k,I v,I a],5,true⟩,⟨26,.vals (List.take ((0+l)*5) (List.take 0 (zerosV [Value.int IntKind.i64 0,Value.int IntKind.i64 0,Value.int IntKind.i64 0,Value.int IntKind.i64 0,Value.int IntKind.i64 0] 20)++List.take (l*5) cs)++[Value.int IntKind.i64 o,Value.int IntKind.i64 n,Value.int IntKind.i64 k,Value.int IntKind.i64 v,Value.int IntKind.i64 a]),tot',false⟩],E:=E'_1:St })))/\(∃ (cs:List Value),(cs=[]\/E (VS b l c) cs)/\l*5<=List.length cs/\(∀ (x:Value),List.Mem x cs->Value.oneCell' x=true)/\0<=100/\100<=100/\0<=20/\req ((0+l)*40<=140737488355328) (∀ (cap' tot':Nat),0+l<=cap'->cap'*5<=tot'->(0+l)*5<=List.length (Row.cells (Row.vals (List.take 0 (zerosV [Value.int IntKind.i64 0,Value.int IntKind.i64 0,Value.int IntKind.i64 0,Value.int IntKind.i64 0,Value.int IntKind.i64 0] 20)++List.take (l*5) cs)))/\cap'*5<=tot'/\0+l<=cap'/\req ((0+l+1)*40<=140737488355328) (∀ (cap'_1 tot':Nat),0+l+1<=cap'_1->cap'_1*5<=tot'->∀ (base:Option Addr) (E':Mem),Mem.le E E'->WinE E' base (List.take ((0+l)*5) (List.take 0 (zerosV [Value.int IntKind.i64 0,Value.int IntKind.i64 0,Value.int IntKind.i64 0,Value.int IntKind.i64 0,Value.int IntKind.i64 0] 20)++List.take (l*5) cs)++[Value.int IntKind.i64 o,Value.int IntKind.i64 n,Value.int IntKind.i64 k,Value.int IntKind.i64 v,Value.int IntKind.i64 a])->∃ (ms:List (Int×List Int)),∃ (before:List (List Int)),∃ (after:List (List Int)),FL E' bm lm cm ms/\SL (RK IntKind.i64 5) E' b l c before/\SL (RK IntKind.i64 5) E' (Option.map (fun (x:Addr)=>Addr.add x 0) base) (0+l+1) cap'_1 after/\lm<=100000/\(0<List.length ms/\∀ (i:Nat) (m:Int×List Int),ms[i]? =some m->heldF me m.fst m.snd=(if i+1=List.length ms then (after,th) else (before,cnt),(0:Int)))/\∀ (E'_1:Mem),Mem.le E' E'_1->Ct WL3 8 Try.f3 [1,1,1,1,1,1] 0 (pubK E0 K) { fr:=none::oI me::none::oI w::oc 0 0::none::oc 1 0::none::none::oB true::oL b l c::oI cnt::none::oL bm lm cm::none::oI th::oB true::no32 (no8 (no4 (none::(oL bm lm cm::oI me::oL b l c::oI cnt::os 2 0 0 20::oL b l c::os 3 0 (0+l) cap'::some (SV.agg [I o,I n,I k,I v,I a])::os 4 0 1 1::os 5 0 (0+l+1) cap'_1::oI th::oB true::oB true::oB true::oB true::oB true::no32 (no16 []))))),bx:=[(⟨24,.lst [I a1,L b1 l1 c1],2,true⟩:Box),⟨26,.lst [I o,I n,I k,I v,I a],5,true⟩,⟨26,.lst [],0,false⟩,⟨26,.lst [],0,false⟩,⟨26,.lst [I o,I n,I k,I v,I a],5,true⟩,⟨26,.vals (List.take ((0+l)*5) (List.take 0 (zerosV [Value.int IntKind.i64 0,Value.int IntKind.i64 0,Value.int IntKind.i64 0,Value.int IntKind.i64 0,Value.int IntKind.i64 0] 20)++List.take (l*5) cs)++[Value.int IntKind.i64 o,Value.int IntKind.i64 n,Value.int IntKind.i64 k,Value.int IntKind.i64 v,Value.int IntKind.i64 a]),tot',false⟩],E:=E'_1:St })))/\∃ (cs:List Value),(cs=[]\/E (VS b l c) cs)/\l*5<=List.length cs/\(∀ (x:Value),List.Mem x cs->Value.oneCell' x=true)/\0<=100/\100<=100/\0<=20/\req ((0+l)*40<=140737488355328) (∀ (cap' tot':Nat),0+l<=cap'->cap'*5<=tot'->(0+l)*5<=List.length (Row.cells (Row.vals (List.take 0 (zerosV [Value.int IntKind.i64 0,Value.int IntKind.i64 0,Value.int IntKind.i64 0,Value.int IntKind.i64 0,Value.int IntKind.i64 0] 20)++List.take (l*5) cs)))/\cap'*5<=tot'/\0+l<=cap'/\req ((0+l+1)*40<=140737488355328) (∀ (cap'_1 tot':Nat),0+l+1<=cap'_1->cap'_1*5<=tot'->∀ (base:Option Addr) (E':Mem),Mem.le E E'->WinE E' base (List.take ((0+l)*5) (List.take 0 (zerosV [Value.int IntKind.i64 0,Value.int IntKind.i64 0,Value.int IntKind.i64 0,Value.int IntKind.i64 0,Value.int IntKind.i64 0] 20)++List.take (l*5) cs)++[Value.int IntKind.i64 o,Value.int IntKind.i64 n,Value.int IntKind.i64 k,Value.int IntKind.i64 v,Value.int IntKind.i64 a])->∃ (ms:List (Int×List Int)),∃ (before:List (List Int)),∃ (after:List (List Int)),FL E' bm lm cm ms/\SL (RK IntKind.i64 5) E' b l c before/\SL (RK IntKind.i64 5) E' (Option.map (fun (x:Addr)=>Addr.add x 0) base) (0+l+1) cap'_1 after/\lm<=100000/\(0<List.length ms/\∀ (i:Nat) (m:Int×List Int),ms[i]? =some m->heldF me m.fst m.snd=(if i+1=List.length ms then (after,th) else (before,cnt),(0:Int)))/\∀ (E'_1:Mem),Mem.le E' E'_1->Ct WL3 8 Try.f3 [1,1,1,1,1,1] 0 (pubK E0 K) { fr:=none::oI me::none::oI w::oc 0 0::none::oc 1 0::none::none::oB true::oL b l c::oI cnt::none::oL bm lm cm::none::oI th::oB true::no32 (no8 (no4 (none::(oL bm lm cm::oI me::oL b l c::oI cnt::os 2 0 0 20::oL b l c::os 4 0 (0+l) cap'::some (SV.agg [I o,I n,I k,I v,I a])::os 3 0 1 1::os 5 0 (0+l+1) cap'_1::oI th::oB true::oB true::oB true::oB true::oB true::no32 (no16 []))))),bx:=[(⟨24,.lst [I a1,L b1 l1 c1],2,true⟩:Box),⟨26,.lst [I o,I n,I k,I v,I a],5,true⟩,⟨26,.lst [],0,false⟩,⟨26,.lst [I o,I n,I k,I v,I a],5,true⟩,⟨26,.lst [],0,false⟩,⟨26,.vals (List.take ((0+l)*5) (List.take 0 (zerosV [Value.int IntKind.i64 0,Value.int IntKind.i64 0,Value.int IntKind.i64 0,Value.int IntKind.i64 0,Value.int IntKind.i64 0] 20)++List.take (l*5) cs)++[Value.int IntKind.i64 o,Value.int IntKind.i64 n,Value.int IntKind.i64 k,Value.int IntKind.i64 v,Value.int IntKind.i64 a]),tot',false⟩],E:=E'_1:St })))/\((∃ (cs:List Value),(cs=[]\/E (VS b l c) cs)/\l*5<=List.length cs/\(∀ (x:Value),List.Mem x cs->Value.oneCell' x=true)/\0<=100/\100<=100/\0<=20/\req ((0+l)*40<=140737488355328) (∀ (cap' tot':Nat),0+l<=cap'->cap'*5<=tot'->(0+l)*5<=List.length (Row.cells (Row.vals (List.take 0 (zerosV [Value.int IntKind.i64 0,Value.int IntKind.i64 0,Value.int IntKind.i64 0,Value.int IntKind.i64 0,Value.int IntKind.i64 0] 20)++List.take (l*5) cs)))/\cap'*5<=tot'/\0+l<=cap'/\req ((0+l+1)*40<=140737488355328) (∀ (cap'_1 tot':Nat),0+l+1<=cap'_1->cap'_1*5<=tot'->∀ (base:Option Addr) (E':Mem),Mem.le E E'->WinE E' base (List.take ((0+l)*5) (List.take 0 (zerosV [Value.int IntKind.i64 0,Value.int IntKind.i64 0,Value.int IntKind.i64 0,Value.int IntKind.i64 0,Value.int IntKind.i64 0] 20)++List.take (l*5) cs)++[Value.int IntKind.i64 o,Value.int IntKind.i64 n,Value.int IntKind.i64 k,Value.int IntKind.i64 v,Value.int IntKind.i64 a])->∃ (ms:List (Int×List Int)),∃ (before:List (List Int)),∃ (after:List (List Int)),FL E' bm lm cm ms/\SL (RK IntKind.i64 5) E' b l c before/\SL (RK IntKind.i64 5) E' (Option.map (fun (x:Addr)=>Addr.add x 0) base) (0+l+1) cap'_1 after/\lm<=100000/\(0<List.length ms/\∀ (i:Nat) (m:Int×List Int),ms[i]? =some m->heldF me m.fst m.snd=(if i+1=List.length ms then (after,th) else (before,cnt),(0:Int)))/\∀ (E'_1:Mem),Mem.le E' E'_1->Ct WL3 8 Try.f3 [1,1,1,1,1,1] 0 (pubK E0 K) { fr:=none::oI me::none::oI w::oc 0 0::none::oc 1 0::none::none::oB true::oL b l c::oI cnt::none::oL bm lm cm::none::oI th::oB true::no32 (no8 (no4 (none::(oL bm lm cm::oI me::oL b l c::oI cnt::os 2 0 0 20::oL b l c::os 3 0 (0+l) cap'::some (SV.agg [I o,I n,I k,I v,I a])::os 4 0 1 1::os 5 0 (0+l+1) cap'_1::oI th::oB true::oB true::oB true::oB true::oB true::no32 (no16 []))))),bx:=[(⟨24,.lst [I a1,L b1 l1 c1],2,true⟩:Box),⟨26,.lst [I o,I n,I k,I v,I a],5,true⟩,⟨26,.lst [],0,false⟩,⟨26,.lst [],0,false⟩,⟨26,.lst [I o,I n,I k,I v,I a],5,true⟩,⟨26,.vals (List.take ((0+l)*5) (List.take 0 (zerosV [Value.int IntKind.i64 0,Value.int IntKind.i64 0,Value.int IntKind.i64 0,Value.int IntKind.i64 0,Value.int IntKind.i64 0] 20)++List.take (l*5) cs)++[Value.int IntKind.i64 o,Value.int IntKind.i64 n,Value.int IntKind.i64 k,Value.int IntKind.i64 v,Value.int IntKind.i64 a]),tot',false⟩],E:=E'_1:St })))/\∃ (cs:List Value),(cs=[]\/E (VS b l c) cs)/\l*5<=List.length cs/\(∀ (x:Value),List.Mem x cs->Value.oneCell' x=true)/\0<=100/\100<=100/\0<=20/\req ((0+l)*40<=140737488355328) (∀ (cap' tot':Nat),0+l<=cap'->cap'*5<=tot'->(0+l)*5<=List.length (Row.cells (Row.vals (List.take 0 (zerosV [Value.int IntKind.i64 0,Value.int IntKind.i64 0,Value.int IntKind.i64 0,Value.int IntKind.i64 0,Value.int IntKind.i64 0] 20)++List.take (l*5) cs)))/\cap'*5<=tot'/\0+l<=cap'/\req ((0+l+1)*40<=140737488355328) (∀ (cap'_1 tot':Nat),0+l+1<=cap'_1->cap'_1*5<=tot'->∀ (base:Option Addr) (E':Mem),Mem.le E E'->WinE E' base (List.take ((0+l)*5) (List.take 0 (zerosV [Value.int IntKind.i64 0,Value.int IntKind.i64 0,Value.int IntKind.i64 0,Value.int IntKind.i64 0,Value.int IntKind.i64 0] 20)++List.take (l*5) cs)++[Value.int IntKind.i64 o,Value.int IntKind.i64 n,Value.int IntKind.i64 k,Value.int IntKind.i64 v,Value.int IntKind.i64 a])->∃ (ms:List (Int×List Int)),∃ (before:List (List Int)),∃ (after:List (List Int)),FL E' bm lm cm ms/\SL (RK IntKind.i64 5) E' b l c before/\SL (RK IntKind.i64 5) E' (Option.map (fun (x:Addr)=>Addr.add x 0) base) (0+l+1) cap'_1 after/\lm<=100000/\(0<List.length ms/\∀ (i:Nat) (m:Int×List Int),ms[i]? =some m->heldF me m.fst m.snd=(if i+1=List.length ms then (after,th) else (before,cnt),(0:Int)))/\∀ (E'_1:Mem),Mem.le E' E'_1->Ct WL3 8 Try.f3 [1,1,1,1,1,1] 0 (pubK E0 K) { fr:=none::oI me::none::oI w::oc 0 0::none::oc 1 0::none::none::oB true::oL b l c::oI cnt::none::oL bm lm cm::none::oI th::oB true::no32 (no8 (no4 (none::(oL bm lm cm::oI me::oL b l c::oI cnt::os 2 0 0 20::oL b l c::os 4 0 (0+l) cap'::some (SV.agg [I o,I n,I k,I v,I a])::os 3 0 1 1::os 5 0 (0+l+1) cap'_1::oI th::oB true::oB true::oB true::oB true::oB true::no32 (no16 []))))),bx:=[(⟨24,.lst [I a1,L b1 l1 c1],2,true⟩:Box),⟨26,.lst [I o,I n,I k,I v,I a],5,true⟩,⟨26,.lst [],0,false⟩,⟨26,.lst [I o,I n,I k,I v,I a],5,true⟩,⟨26,.lst [],0,false⟩,⟨26,.vals (List.take ((0+l)*5) (List.take 0 (zerosV [Value.int IntKind.i64 0,Value.int IntKind.i64 0,Value.int IntKind.i64 0,Value.int IntKind.i64 0,Value.int IntKind.i64 0] 20)++List.take (l*5) cs)++[Value.int IntKind.i64 o,Value.int IntKind.i64 n,Value.int IntKind.i64 k,Value.int IntKind.i64 v,Value.int IntKind.i64 a]),tot',false⟩],E:=E'_1:St })))/\∃ (cs:List Value),(cs=[]\/E (VS b l c) cs)/\l*5<=List.length cs/\(∀ (x:Value),List.Mem x cs->Value.oneCell' x=true)/\0<=100/\100<=100/\0<=20/\req ((0+l)*40<=140737488355328) (∀ (cap' tot':Nat),0+l<=cap'->cap'*5<=tot'->(0+l)*5<=List.length (Row.cells (Row.vals (List.take 0 (zerosV [Value.int IntKind.i64 0,Value.int IntKind.i64 0,Value.int IntKind.i64 0,Value.int IntKind.i64 0,Value.int IntKind.i64 0] 20)++List.take (l*5) cs)))/\cap'*5<=tot'/\0+l<=cap'/\req ((0+l+1)*40<=140737488355328) (∀ (cap'_1 tot':Nat),0+l+1<=cap'_1->cap'_1*5<=tot'->∀ (base:Option Addr) (E':Mem),Mem.le E E'->WinE E' base (List.take ((0+l)*5) (List.take 0 (zerosV [Value.int IntKind.i64 0,Value.int IntKind.i64 0,Value.int IntKind.i64 0,Value.int IntKind.i64 0,Value.int IntKind.i64 0] 20)++List.take (l*5) cs)++[Value.int IntKind.i64 o,Value.int IntKind.i64 n,Value.int IntKind.i64 k,Value.int IntKind.i64 v,Value.int IntKind.i64 a])->∃ (ms:List (Int×List Int)),∃ (before:List (List Int)),∃ (after:List (List Int)),FL E' bm lm cm ms/\SL (RK IntKind.i64 5) E' b l c before/\SL (RK IntKind.i64 5) E' (Option.map (fun (x:Addr)=>Addr.add x 0) base) (0+l+1) cap'_1 after/\lm<=100000/\(0<List.length ms/\∀ (i:Nat) (m:Int×List Int),ms[i]? =some m->heldF me m.fst m.snd=(if i+1=List.length ms then (after,th) else (before,cnt),(0:Int)))/\∀ (E'_1:Mem),Mem.le E' E'_1->Ct WL3 8 Try.f3 [1,1,1,1,1,1] 0 (pubK E0 K) { fr:=none::oI me::none::oI w::oc 0 0::none::oc 1 0::none::none::oB true::oL b l c::oI cnt::none::oL bm lm cm::none::oI th::oB true::no32 (no8 (no4 (none::(oL bm lm cm::oI me::oL b l c::oI cnt::os 3 0 0 20::oL b l c::os 4 0 (0+l) cap'::some (SV.agg [I o,I n,I k,I v,I a])::os 2 0 1 1::os 5 0 (0+l+1) cap'_1::oI th::oB true::oB true::oB true::oB true::oB true::no32 (no16 []))))),bx:=[(⟨24,.lst [I a1,L b1 l1 c1],2,true⟩:Box),⟨26,.lst [I o,I n,I k,I v,I a],5,true⟩,⟨26,.lst [I o,I n,I k,I v,I a],5,true⟩,⟨26,.lst [],0,false⟩,⟨26,.lst [],0,false⟩,⟨26,.vals (List.take ((0+l)*5) (List.take 0 (zerosV [Value.int IntKind.i64 0,Value.int IntKind.i64 0,Value.int IntKind.i64 0,Value.int IntKind.i64 0,Value.int IntKind.i64 0] 20)++List.take (l*5) cs)++[Value.int IntKind.i64 o,Value.int IntKind.i64 n,Value.int IntKind.i64 k,Value.int IntKind.i64 v,Value.int IntKind.i64 a]),tot',false⟩],E:=E'_1:St })))
 delta VS no4 no8 no16 no32
 have w5:=(held_inv hh).w5
 have n1:=h1.len
 have w5':W5 xs:=w5
 have vl:=vR_len w5'
 have lF:=FM.len
 have c0:vR xs=[]\/E (.slice b l c) (vR xs):=by
  obtain ⟨rs,g1,g2,g3,g4,g5⟩:=h1
  have e:=SLr_RKeq g1
  have e2:rs.flatten=vR xs:=by rw [e];exact (show vR xs=_ from flat_map).symm
  rw [e2] at g4
  exact g4.imp_left fun q=>List.length_eq_zero_iff.1 (by rw [vl];omega)
 have hW:∀ {Z:List Value} {base:Option Addr} {E1:Mem} {cap2:Nat},0+l+1<=cap2->WinE E1 base (List.take ((0+l)*5) (List.take 0 Z++List.take (l*5) (vR xs))++[Value.int .i64 o,Value.int .i64 n,Value.int .i64 k,Value.int .i64 v,Value.int .i64 a])->SL (RK .i64 5) E1 (base.map fun x=>x.add 0) (0+l+1) cap2 (xs++[[o,n,k,v,a]]):=fun {Z base E1 cap2} q w=>by
  refine vR_win (w5'.snoc rfl) (by simp;omega) q ?_
  have e:List.take ((0+l)*5) (List.take 0 Z++List.take (l*5) (vR xs))++[Value.int .i64 o,Value.int .i64 n,Value.int .i64 k,Value.int .i64 v,Value.int .i64 a]=vR (xs++[[o,n,k,v,a]]):=by
   rw [List.take_zero,List.nil_append,Nat.zero_add,List.take_take,Nat.min_self,List.take_of_length_le (by omega)]
   unfold vR;simp
  rw [← e];exact w
 repeat' refine And.intro ?_ ?_
 all_goals
  refine ⟨vR xs,c0,by omega,fun x hx=>by obtain ⟨z,_,rfl⟩:=List.mem_map.1 hx;rfl,by decide,by decide,by decide,req_intro (by omega) fun cap' tot' q1 q2=>⟨?_,q2,q1,req_intro (by omega) fun cap2 tot2 q3 q4 base E1 k1 w1=>⟨ms,xs,xs++[[o,n,k,v,a]],FM.mono k1,h1.mono (RK_ok .i64 (by decide)) k1,hW q3 w1,hlm,hT,fun E2 k2=>?_⟩⟩⟩
  ·show (0+l)*5<=((List.take 0 _++List.take (l*5) (vR xs)).map SV.raw).length
   rw [List.take_zero,List.nil_append,List.length_map,List.length_take];omega
  ·exact Ct_re [some 0] (Ct_intro okWL3 (pB3 (hB.mono (mt_ k1 k2)) (h1.mono (RK_ok .i64 (by decide)) (mt_ k1 k2)) hl hh (mt_ hE (mt_ k1 k2)) (fun E' k=>h E' (mt_ (mt_ k1 k2) k)))) (wkG mr_)
theorem e3 {a1:Int} {b1:Option Addr} {l1:Nat} {c1:Nat} {z1:List Int} {a2:Int} {a3:Int} {a4:Int} {a5:Int} {a6:Int} {a7:Int} {a8:Int} (ha1:(Lit.int .i64 a1).wf=true) (hB1:Bs E b1 l1 c1 z1) (ha2:(Lit.int .i64 a2).wf=true) (ha3:(Lit.int .i64 a3).wf=true) (ha4:(Lit.int .i64 a4).wf=true) (ha5:(Lit.int .i64 a5).wf=true) (ha6:(Lit.int .i64 a6).wf=true) (ha7:(Lit.int .i64 a7).wf=true) (ha8:(Lit.int .i64 a8).wf=true) (h:∀ E':Mem,Mem.le E E'->K (B true) E'):
  Ent WL3 8 Try.f3 [.agg [I a1,L b1 l1 c1],I a2,.agg [I a3,I a4,I a5,I a6,I a7],I a8] E K:=by
 refine sm_ (?_:∀ (E':Mem),Mem.le E E'->Mem.le E E'/\∃ (zs:List Int),Bs E' b1 l1 c1 zs/\∀ (b':Option Addr) (l' c':Nat) (xs:List (List Int)) (cnt e:Int) (E'_1:Mem),Mem.le E' E'_1->Hyp (heldF a2 a1 zs=((xs,cnt),e))->SL (RK IntKind.i64 5) E'_1 b' l' c' xs->l'<=16->Mem.le E' E'_1/\bif e !=(0:Int) then bif e !=(0:Int) then Mem.le E E'_1/\K (B (bif true then bif true then (NI l')==0 else false else false)) E'_1 else Mem.le E E'_1/\K (B false) E'_1 else bif bif false then true else decide ((NI l')>20) then bif e !=(0:Int) then Mem.le E E'_1/\K (B (bif true then bif true then (NI l')==0 else false else false)) E'_1 else Mem.le E E'_1/\K (B false) E'_1 else ∃ (zs:List Int),Bs E'_1 b1 l1 c1 zs/\∀ (b'_1:Option Addr) (l'_1 c'_1:Nat) (ms:List (Int×List Int)) (e_1:Int) (E':Mem),Mem.le E'_1 E'->Hyp (takeF a2 a1 zs a3 a4 a5 a6 a7=(ms,e_1))->FL E' b'_1 l'_1 c'_1 ms->Mem.le E'_1 E'/\bif e_1==(0:Int) then bif a3==a2 then Ct WL3 8 Try.f3 [1,1,1,1,1,0,1,0,1,1] 0 (pubK E K) { fr:=some (SV.agg [I a1,L b1 l1 c1])::oI a2::some (SV.agg [I a3,I a4,I a5,I a6,I a7])::oI a8::oc 0 0::none::oc 1 0::none::oB false::oB true::oL b' l' c'::oI cnt::oI e::oL b'_1 l'_1 c'_1::oI e_1::oI a4::none::none::none::none::none::oB true::some (SV.tup [L b' l' c',I cnt,I e])::some (SV.agg [I a1,L b1 l1 c1])::oI a2::some (SV.tup [L b' l' c',I cnt,I e])::oL b' l' c'::oI cnt::oI e::oI e::oB (e !=(0:Int))::oB false::oL b' l' c'::oI (NI l')::oB (decide ((NI l')>20))::oB (bif false then true else decide ((NI l')>20))::no8 (no2 (some (SV.tup [L b'_1 l'_1 c'_1,I e_1])::some (SV.agg [I a1,L b1 l1 c1])::oI a2::some (SV.agg [I a3,I a4,I a5,I a6,I a7])::some (SV.tup [L b'_1 l'_1 c'_1,I e_1])::oL b'_1 l'_1 c'_1::oI e_1::oI e_1::oB (e_1==(0:Int))::oI cnt::oc 1 0::oI a3::oI a2::oB (a3==a2)::oc 1 1::oI a4::no32 (no32 []))),bx:=[(⟨24,.lst [I a1,L b1 l1 c1],2,true⟩:Box),⟨26,.lst [I a3,I a4,I a5,I a6,I a7],5,true⟩],E:=E':St } else Ct WL3 8 Try.f3 [1,1,1,1,1,0,1,0,1,1] 0 (pubK E K) { fr:=some (SV.agg [I a1,L b1 l1 c1])::oI a2::some (SV.agg [I a3,I a4,I a5,I a6,I a7])::oI a8::oc 0 0::none::oc 1 0::none::oB false::oB true::oL b' l' c'::oI cnt::oI e::oL b'_1 l'_1 c'_1::oI e_1::oI cnt::none::none::none::none::none::oB true::some (SV.tup [L b' l' c',I cnt,I e])::some (SV.agg [I a1,L b1 l1 c1])::oI a2::some (SV.tup [L b' l' c',I cnt,I e])::oL b' l' c'::oI cnt::oI e::oI e::oB (e !=(0:Int))::oB false::oL b' l' c'::oI (NI l')::oB (decide ((NI l')>20))::oB (bif false then true else decide ((NI l')>20))::no8 (no2 (some (SV.tup [L b'_1 l'_1 c'_1,I e_1])::some (SV.agg [I a1,L b1 l1 c1])::oI a2::some (SV.agg [I a3,I a4,I a5,I a6,I a7])::some (SV.tup [L b'_1 l'_1 c'_1,I e_1])::oL b'_1 l'_1 c'_1::oI e_1::oI e_1::oB (e_1==(0:Int))::oI cnt::oc 1 0::oI a3::oI a2::oB (a3==a2)::no32 (no32 (no2 [])))),bx:=[(⟨24,.lst [I a1,L b1 l1 c1],2,true⟩:Box),⟨26,.lst [I a3,I a4,I a5,I a6,I a7],5,true⟩],E:=E':St } else Ct WL3 8 Try.f3 [1,1,1,1,1,1] 0 (pubK E K) { fr:=some (SV.agg [I a1,L b1 l1 c1])::oI a2::some (SV.agg [I a3,I a4,I a5,I a6,I a7])::oI a8::oc 0 0::none::oc 1 0::none::oB false::oB true::oL b' l' c'::oI cnt::oI e::oL b'_1 l'_1 c'_1::oI e_1::no4 (no2 (oB true::some (SV.tup [L b' l' c',I cnt,I e])::some (SV.agg [I a1,L b1 l1 c1])::oI a2::some (SV.tup [L b' l' c',I cnt,I e])::oL b' l' c'::oI cnt::oI e::oI e::oB (e !=(0:Int))::oB false::oL b' l' c'::oI (NI l')::oB (decide ((NI l')>20))::oB (bif false then true else decide ((NI l')>20))::no8 (no2 (some (SV.tup [L b'_1 l'_1 c'_1,I e_1])::some (SV.agg [I a1,L b1 l1 c1])::oI a2::some (SV.agg [I a3,I a4,I a5,I a6,I a7])::some (SV.tup [L b'_1 l'_1 c'_1,I e_1])::oL b'_1 l'_1 c'_1::oI e_1::oI e_1::oB (e_1==(0:Int))::no32 (no32 (no4 (no2 (none::[])))))))),bx:=[(⟨24,.lst [I a1,L b1 l1 c1],2,true⟩:Box),⟨26,.lst [I a3,I a4,I a5,I a6,I a7],5,true⟩],E:=E':St })
 delta NI no2 no4 no8 no32
 refine fun EA kA=>⟨kA,z1,hB1.mono kA,fun b l c xs cnt e EB kB nB SB lB=>⟨kB,?_⟩⟩
 have nB:heldF a2 a1 z1=((xs,cnt),e):=nB
 have kb:=mt_ kA kB
 have bz:=hB1.2.2.2.1
 have n1:=SB.len
 refine condC (fun g=>condC (fun g2=>⟨kb,?_⟩) (fun g2=>by rw [g] at g2;cases g2)) (fun g=>condC (fun v=>by simp at v;omega) (fun _=>?_))
 ·have g:e≠0:=by simpa using g
  have:=(Prod.mk.inj (held_err nB g)).1
  rw [this] at n1
  have e0:((l:Int)==0)=true:=by simp at n1;simp;omega
  rw [e0];exact h EB kb
 have g:e=0:=by simpa using g
 subst g
 refine ⟨z1,hB1.mono kb,fun bC lC cC mC eC EC kC nC FC=>⟨kC,?_⟩⟩
 have nC:takeF a2 a1 z1 a3 a4 a5 a6 a7=(mC,eC):=nC
 have kc:=mt_ kb kC
 have tn:=take_num a2 a1 z1 a3 a4 a5 a6 a7
 rw [nC] at tn
 have tn:mC.length<=40000:=tn
 have lF:=FC.len
 refine condC (fun g=>?_) (fun g=>?_)
 ·have g:eC=0:=by simpa using g
  subst g
  obtain ⟨_,_,_,_,r5,r6⟩:=take_reads bz nB nC
  refine condC (fun g2=>?_) (fun g2=>?_)
  ·have g2:a3=a2:=by simpa using g2
   rw [if_pos g2] at r6
   exact Ct_re [some 0,some 1] (Ct_intro okWL3 (pA3 (ms:=mC) (xs:=xs) (cnt:=cnt) (hB1.mono kc) (SB.mono (RK_ok .i64 (by decide)) kC) lB nB kc (fun E' k=>h E' (mt_ kc k)) FC (by omega) ⟨r5,r6⟩)) (wkG mr_)
  ·have g2:¬ a3=a2:=by simpa using g2
   rw [if_neg g2] at r6
   exact Ct_re [some 0,some 1] (Ct_intro okWL3 (pA3 (ms:=mC) (xs:=xs) (cnt:=cnt) (hB1.mono kc) (SB.mono (RK_ok .i64 (by decide)) kC) lB nB kc (fun E' k=>h E' (mt_ kc k)) FC (by omega) ⟨r5,r6⟩)) (wkG mr_)
 ·exact Ct_re [some 0] (Ct_intro okWL3 (pB3 (hB1.mono kc) (SB.mono (RK_ok .i64 (by decide)) kC) lB nB kc (fun E' k=>h E' (mt_ kc k)))) (wkG mr_)
theorem opn3 (W:World) (K:List SV->Prop) (h:∀ a1:Int,(Lit.int .i64 a1).wf=true->∀ (b1:Option Addr) (l1 c1:Nat) (z1:List Int),(l1<=c1)->(c1<=maxLen)->(b1=none->c1=0)->(z1.length=c1)->(∀ x∈z1,(Lit.int .u8 x).wf=true)->RowAt W (.slice b1 l1 c1) (z1.map (.int .u8))->∀ a2:Int,(Lit.int .i64 a2).wf=true->∀ a3:Int,(Lit.int .i64 a3).wf=true->∀ a4:Int,(Lit.int .i64 a4).wf=true->∀ a5:Int,(Lit.int .i64 a5).wf=true->∀ a6:Int,(Lit.int .i64 a6).wf=true->∀ a7:Int,(Lit.int .i64 a7).wf=true->∀ a8:Int,(Lit.int .i64 a8).wf=true->K [.agg [I a1,L b1 l1 c1],I a2,.agg [I a3,I a4,I a5,I a6,I a7],I a8]):opnAll Try.prog W Try.f3.params.toList K:=
 same (by kernel_rfl) h
theorem sem3 (W:World):opnAll Try.prog W Try.f3.params.toList fun ss=>TabSem Try.prog 3 ss (fun v cs=>RowAt W v cs) fun r _=>r= .raw (.bool true):=by
 refine opn3 W _ ?_
 intro a1 ha1 b1 l1 c1 z1 hl1 hc1 hb1 hz1 hw1 hE1 a2 ha2 a3 ha3 a4 ha4 a5 ha5 a6 ha6 a7 ha7 a8 ha8
 exact esm okWL3 Try.func3 rfl (e3 ha1 (Bs.of hl1 hb1 hz1 hw1 hE1) ha2 ha3 ha4 ha5 ha6 ha7 ha8 (fun _ _=>rfl))
theorem lifted3 (os:Os) (started:os.Started) (H:Type) (enc:TypeId×Value->H):
  ReturnsInHanded {} Try.checked os 3 .any (Rows.custodyTornSpec.pre6 enc Try.prog Try.f3 Rows.custodyTornRow.domain false) (Rows.custodyTornSpec.post enc Try.prog Try.f3 false true false false):=
 lift_true (C:=Try.checked) (by kernel_rfl) (by kernel_rfl) started (by kernel_rfl) Try.func3
  (ChangeSpec.witness6 (enc:=enc) (C:=Try.checked) false ⟨#[],#[.agg #[.int .i64 0,.slice none 0 0],.int .i64 0,.agg #[.int .i64 0,.int .i64 0,.int .i64 0,.int .i64 0,.int .i64 0],.int .i64 0],[]⟩ 8 (by kernel_rfl) (by kernel_rfl) (by kernel_rfl) (by kernel_rfl))
  (Tb:=4) (by kernel_rfl) (by kernel_rfl) (by kernel_rfl) rfl
  (fun ds hl=>by
   match ds,hl with
   | [d0,d1,d2,d3],_=>exact ⟨rfl,rfl,rfl⟩)
  sem3
theorem over3:Rows.custodyTornRow.holds Try.pinned (OpenSpec.ofChange Rows.custodyTornSpec):=
 OpenClaim.holds_of_wide 3 Try.f3 rfl rfl rfl rfl rfl rfl rfl ⟨rfl,rfl,rfl,rfl,rfl⟩ rfl rfl rfl rfl rfl (by kernel_rfl) Try.func3 (by kernel_rfl)
  (of_decide_eq_true (by kernel_rfl)) (by unfold Func.isWrapper;first|(rw [if_pos (by decide+kernel)];kernel_rfl)|(rw [if_neg (by decide+kernel)];exact ⟨rfl,rfl⟩))
  (fun os started H enc _=>lifted3 os started H enc)
theorem proved3:Rows.CustodyTornSaid:=over3
end Go.Proofs.Ytdaakdbkmjgloaa.CustodyOwn
