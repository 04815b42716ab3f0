/- The law's proof: for every input the law answers true. Conditions: none. -/
import Derived.Test.YtdaakdbkmjgloaaCp3
import Derived.Test.YtdaakdbkmjgloaaRows
namespace Go.Proofs.Ytdaakdbkmjgloaa.CustodyOwn
open Go Go.Sx Go.Proofs.Ytdaakdbkmjgloaa
set_option maxRecDepth 100000
set_option maxHeartbeats 4000000
set_option linter.unusedVariables false
set_option linter.unusedSimpArgs false
variable {E:Mem} {K:SV->Mem->Prop}
noncomputable def tabL6:FuncId->List SV->Mem->(SV->Mem->Prop)->Prop:=fun f args E K=>match f with
 | 7=>d0 args ((∀ E':Mem,Mem.le E E'->K (B true) E'))
 | 8=>d2 args fun x0 x1=>dC x0 fun l1=>d2 l1 fun x0_0 x0_1=>dI x0_0 fun a1=>dS x0_1 fun b2 l3 c4=>dI x1 fun a5=>∃ (zs:List Int),Bs E b2 l3 c4 zs/\(∀ (b':Option Addr) (l' c':Nat) (xs:List (List Int)) (cnt e:Int) (E':Mem),Mem.le E E'->Hyp (heldF a5 a1 zs=((xs,cnt),e))->SL (RK .i64 5) E' b' l' c' xs->l'<=16->K (.tup [L b' l' c',I cnt,I e]) E')
 | 9=>d3 args fun x0 x1 x2=>dC x0 fun l1=>d2 l1 fun x0_0 x0_1=>dI x0_0 fun a1=>dS x0_1 fun b2 l3 c4=>dI x1 fun a5=>dC x2 fun l2=>d5 l2 fun x2_0 x2_1 x2_2 x2_3 x2_4=>dI x2_0 fun a6=>dI x2_1 fun a7=>dI x2_2 fun a8=>dI x2_3 fun a9=>dI x2_4 fun a10=>∃ (zs:List Int),Bs E b2 l3 c4 zs/\(∀ (b':Option Addr) (l' c':Nat) (ms:List (Int×List Int)) (e:Int) (E':Mem),Mem.le E E'->Hyp (takeF a5 a1 zs a6 a7 a8 a9 a10=(ms,e))->FL E' b' l' c' ms->K (.tup [L b' l' c',I e]) E')
 | 11=>d4 args fun x0 x1 x2 x3=>dC x0 fun l1=>d2 l1 fun x0_0 x0_1=>dI x0_0 fun a1=>dS x0_1 fun b2 l3 c4=>dI x1 fun a5=>dI x2 fun a6=>dI x3 fun a7=>∃ (zs:List Int),Bs E b2 l3 c4 zs/\(∀ (b':Option Addr) (l' c':Nat) (ms:List (Int×List Int)) (e:Int) (E':Mem),Mem.le E E'->Hyp (giveF a5 a1 zs a6 a7=(ms,e))->FL E' b' l' c' ms->K (.tup [L b' l' c',I e]) E')
 | 18=>d3 args fun x0 x1 x2=>dC x0 fun l1=>d2 l1 fun x0_0 x0_1=>dI x0_0 fun a1=>dS x0_1 fun b2 l3 c4=>dS x1 fun b5 l6 c7=>dI x2 fun a8=>∃ (zs:List Int) (ms:List (Int×List Int)),Bs E b2 l3 c4 zs/\FL E b5 l6 c7 ms/\l6<=100000/\(∀ (s':Int) (b':Option Addr) (l' c':Nat) (ys:List Int) (E':Mem),Mem.le E E'->Hyp (lastF (a1,zs) ms a8=(s',ys))->Bs E' b' l' c' ys->K (.agg [I s',L b' l' c']) E')
 | 15=>d3 args fun x0 x1 x2=>dS x0 fun b1 l2 c3=>dI x1 fun a4=>dI x2 fun a5=>∃ (xs:List (List Int)),SL (RK .i64 5) E b1 l2 c3 xs/\l2<=1000000/\(K (B (xs.any (isN a4 a5))) E)
 | _=>False
theorem tabL6_ok:TabOK Try.prog tabL6:=by
 intro f args E K h
 unfold tabL6 at h
 split at h
 ·obtain ⟨rfl,h⟩:=d0_elim h
  exact TabSem.congr rfl (esm okQM Try.func7 rfl (c7 h))
 ·replace h:=d2_elim h
  obtain ⟨x0,x1,rfl,h⟩:=h
  replace h:=dC_elim h
  obtain ⟨l1,hl1,h⟩:=h
  replace h:=d2_elim h
  obtain ⟨x0_0,x0_1,rfl,h⟩:=h
  replace h:=dI_elim h
  obtain ⟨a1,rfl,h⟩:=h
  replace h:=dS_elim h
  obtain ⟨b2,l3,c4,rfl,h⟩:=h
  replace h:=dI_elim h
  obtain ⟨a5,rfl,h⟩:=h
  obtain ⟨zs,g0,h⟩:=h
  exact TabSem.congr (valL_cons (asCells_val hl1) (valL_cons rfl rfl)) (esm okQE Try.func8 rfl (c8 g0 h))
 ·replace h:=d3_elim h
  obtain ⟨x0,x1,x2,rfl,h⟩:=h
  replace h:=dC_elim h
  obtain ⟨l1,hl1,h⟩:=h
  replace h:=d2_elim h
  obtain ⟨x0_0,x0_1,rfl,h⟩:=h
  replace h:=dI_elim h
  obtain ⟨a1,rfl,h⟩:=h
  replace h:=dS_elim h
  obtain ⟨b2,l3,c4,rfl,h⟩:=h
  replace h:=dI_elim h
  obtain ⟨a5,rfl,h⟩:=h
  replace h:=dC_elim h
  obtain ⟨l2,hl2,h⟩:=h
  replace h:=d5_elim h
  obtain ⟨x2_0,x2_1,x2_2,x2_3,x2_4,rfl,h⟩:=h
  replace h:=dI_elim h
  obtain ⟨a6,rfl,h⟩:=h
  replace h:=dI_elim h
  obtain ⟨a7,rfl,h⟩:=h
  replace h:=dI_elim h
  obtain ⟨a8,rfl,h⟩:=h
  replace h:=dI_elim h
  obtain ⟨a9,rfl,h⟩:=h
  replace h:=dI_elim h
  obtain ⟨a10,rfl,h⟩:=h
  obtain ⟨zs,g0,h⟩:=h
  exact TabSem.congr (valL_cons (asCells_val hl1) (valL_cons rfl (valL_cons (asCells_val hl2) rfl))) (esm okQG Try.func9 rfl (c9 g0 h))
 ·replace h:=d4_elim h
  obtain ⟨x0,x1,x2,x3,rfl,h⟩:=h
  replace h:=dC_elim h
  obtain ⟨l1,hl1,h⟩:=h
  replace h:=d2_elim h
  obtain ⟨x0_0,x0_1,rfl,h⟩:=h
  replace h:=dI_elim h
  obtain ⟨a1,rfl,h⟩:=h
  replace h:=dS_elim h
  obtain ⟨b2,l3,c4,rfl,h⟩:=h
  replace h:=dI_elim h
  obtain ⟨a5,rfl,h⟩:=h
  replace h:=dI_elim h
  obtain ⟨a6,rfl,h⟩:=h
  replace h:=dI_elim h
  obtain ⟨a7,rfl,h⟩:=h
  obtain ⟨zs,g0,h⟩:=h
  exact TabSem.congr (valL_cons (asCells_val hl1) (valL_cons rfl (valL_cons rfl (valL_cons rfl rfl)))) (esm okQG Try.func11 rfl (c11 g0 h))
 ·replace h:=d3_elim h
  obtain ⟨x0,x1,x2,rfl,h⟩:=h
  replace h:=dC_elim h
  obtain ⟨l1,hl1,h⟩:=h
  replace h:=d2_elim h
  obtain ⟨x0_0,x0_1,rfl,h⟩:=h
  replace h:=dI_elim h
  obtain ⟨a1,rfl,h⟩:=h
  replace h:=dS_elim h
  obtain ⟨b2,l3,c4,rfl,h⟩:=h
  replace h:=dS_elim h
  obtain ⟨b5,l6,c7,rfl,h⟩:=h
  replace h:=dI_elim h
  obtain ⟨a8,rfl,h⟩:=h
  obtain ⟨zs,ms,g0,g1,g2,h⟩:=h
  exact TabSem.congr (valL_cons (asCells_val hl1) (valL_cons rfl (valL_cons rfl rfl))) (esm okQI Try.func18 rfl (c18 g0 g1 g2 h))
 ·replace h:=d3_elim h
  obtain ⟨x0,x1,x2,rfl,h⟩:=h
  replace h:=dS_elim h
  obtain ⟨b1,l2,c3,rfl,h⟩:=h
  replace h:=dI_elim h
  obtain ⟨a4,rfl,h⟩:=h
  replace h:=dI_elim h
  obtain ⟨a5,rfl,h⟩:=h
  obtain ⟨xs,g0,g1,h⟩:=h
  exact TabSem.congr (valL_cons rfl (valL_cons rfl (valL_cons rfl rfl))) (esm okQ7 Try.func15 rfl (c15 g0 g1 h))
 ·exact h.elim
noncomputable def WL6:Cx:={ P:=Try.prog,inl:=fun f=>List.contains [] f,tab:=tabL6,isB:=fun _=>false,tabB:=fun _ _ _ _ _=>False,opt:={ unroll:=0,carry:=[11,25] },muts:=mutsD }
theorem okWL6:CxOK WL6:=CxOK.four tabL6_ok (by kernel_rfl) (okInl (by kernel_rfl)) (fun _ _ _ _ _ h=>h.elim)
def us6 (b b4 b6:Option Addr) (l c l4 c4 l6 c6:Nat) (o n:Int) (i:Nat) (E:Mem):St:=⟨[none,none,none,oI o,oI n,none,none,none,none,none,none,oB true,oL b l c,none,none,none,none,none,none,oL b4 l4 c4,none,none,oL b6 l6 c6,none,none,oI (i:Nat),none,none,none,none,none,none,none,none,none,none,none,none,none,none,none,none,none,none,none,none,none,none,none,none,none,none,none,none,none,none,none,none,none,none,none,none,none,none,none,none,none,none,none,none,none,none,none,none,none,none,none,none,none,none,none,none,none,none,none,none,none,none,none,none,none,none,none,none,none,none,none,none,none,none,none,none,none,none,none,none,none,none,none,none,none,none,none,none,none,none,none,none,none,none,none,none,none,none,none,none,none,none,none,none,none,none,none,none,none,none,none,none],[],E⟩
theorem ur6 {b b4 b6:Option Addr} {l c l4 c4 l6 c6:Nat} {o n:Int} {xs ys ws:List (List Int)} {E0:Mem} {i:Nat} (h1:SL (RK .i64 5) E b l c xs) (h2:SL (RK .i64 5) E b4 l4 c4 ys) (h3:SL (RK .i64 5) E b6 l6 c6 ws) (hl:l<=16/\l4<=16/\l6<=16) (p1:∀ x∈xs,ys.any (isN (x.getD 0 0) (x.getD 1 0))=true) (p2:∀ x∈xs,ws.any (isN (x.getD 0 0) (x.getD 1 0))=true\/(x.getD 0 0=o/\x.getD 1 0=n)) (p3:l4<=l+1/\l6<=l) (hE:Mem.le E0 E) (h:∀ E':Mem,Mem.le E E'->K (B true) E') (hi:i<=l) (ih:i<l->Lp WL6 8 Try.f6 [1,1,1,1,1,1,1,1,1,0,1,0] 0 (pubK E0 K) (us6 b b4 b6 l c l4 c4 l6 c6 o n (i+1) E)):Rnd WL6 8 Try.f6 [1,1,1,1,1,1,1,1,1,0,1,0] 0 (pubK E0 K) (us6 b b4 b6 l c l4 c4 l6 c6 o n i E):=by
 refine sm_ (?_:bif decide ((NI i)<(NI l)) then req (0<=(NI i)/\(NI i)<(NI l)) ((∃ (cs:List Value),E (VS b l c) cs/\(cs=[]->False))/\∃ (n_1:Int),∃ (n_2:Int),∃ (n_3:Int),∃ (n_4:Int),∃ (n_5:Int),LoadE WL6.P E 26 (VS b l c) (Int.toNat (NI i)*5) (SV.agg [I n_1,I n_2,I n_3,I n_4,I n_5])/\∃ (xs:List (List Int)),SL (RK IntKind.i64 5) E b4 l4 c4 xs/\l4<=1000000/\Mem.le E E/\∃ (xs_1:List (List Int)),SL (RK IntKind.i64 5) E b6 l6 c6 xs_1/\l6<=1000000/\Mem.le E E/\bif bif true then List.any xs (isN n_1 n_2) else false then bif List.any xs_1 (isN n_1 n_2) then Lp WL6 8 Try.f6 [1,1,1,1,1,1,1,1,1,0,1,0] 0 (pubK E0 K) { fr:=none::none::none::oI o::oI n::no4 (no2 (oB true::oL b l c::no4 (no2 (oL b4 l4 c4::none::none::oL b6 l6 c6::none::none::oI (WI ((NI i)+1))::no32 (no32 (no32 (no16 []))))))),bx:=[(⟨26,.lst [I n_1,I n_2,I n_3,I n_4,I n_5],5,true⟩:Box)],E:=E:St } else bif n_1==o then Lp WL6 8 Try.f6 [1,1,1,1,1,1,1,1,1,0,1,0] 0 (pubK E0 K) { fr:=none::none::none::oI o::oI n::no4 (no2 (oB (bif true then bif false then true else bif true then n_2==n else false else false)::oL b l c::no4 (no2 (oL b4 l4 c4::none::none::oL b6 l6 c6::none::none::oI (WI ((NI i)+1))::no32 (no32 (no32 (no16 []))))))),bx:=[(⟨26,.lst [I n_1,I n_2,I n_3,I n_4,I n_5],5,true⟩:Box)],E:=E:St } else Lp WL6 8 Try.f6 [1,1,1,1,1,1,1,1,1,0,1,0] 0 (pubK E0 K) { fr:=none::none::none::oI o::oI n::no4 (no2 (oB false::oL b l c::no4 (no2 (oL b4 l4 c4::none::none::oL b6 l6 c6::none::none::oI (WI ((NI i)+1))::no32 (no32 (no32 (no16 []))))))),bx:=[(⟨26,.lst [I n_1,I n_2,I n_3,I n_4,I n_5],5,true⟩:Box)],E:=E:St } else Lp WL6 8 Try.f6 [1,1,1,1,1,1,1,1,1,0,1,0] 0 (pubK E0 K) { fr:=none::none::none::oI o::oI n::no4 (no2 (oB false::oL b l c::no4 (no2 (oL b4 l4 c4::none::none::oL b6 l6 c6::none::none::oI (WI ((NI i)+1))::no32 (no32 (no32 (no16 []))))))),bx:=[(⟨26,.lst [I n_1,I n_2,I n_3,I n_4,I n_5],5,true⟩:Box)],E:=E:St }) else bif bif true then decide ((NI l4)<=WI ((NI l)+1)) else false then Mem.le E0 E/\K (B (bif true then decide ((NI l6)<=(NI l)) else false)) E else Mem.le E0 E/\K (B false) E)
 delta WI NI VS no2 no4 no16 no32
 have n1:=h1.len
 refine condC (fun g=>?_) (fun g=>?_)
 ·have g:i<l:=by simpa using g
  obtain ⟨x,hx⟩:∃ x,xs[i]? =some x:=⟨_,List.getElem?_eq_getElem (by omega)⟩
  obtain ⟨o1,o2,o3,o4,o5,ex,l5⟩:=rowK5 (T:=26) h1 rfl rfl hx
  have q1:=p1 x (List.mem_of_getElem? hx)
  have q2:=p2 x (List.mem_of_getElem? hx)
  rw [ex] at q1 q2
  have q1:ys.any (isN o1 o2)=true:=q1
  have q2:ws.any (isN o1 o2)=true\/(o1=o/\o2=n):=q2
  rw [Int.toNat_natCast,wrap_i64 (x:=(i:Int)+1) (by omega)]
  refine req_intro (by omega) ⟨SL.ne (RK_ok .i64 (by decide)) h1 g,o1,o2,o3,o4,o5,l5,ys,h2,by omega,mr_,ws,h3,by omega,mr_,condC (fun _=>condC (fun _=>?_) (fun w=>condC (fun w2=>?_) (fun w2=>?_))) (fun v=>by rw [q1] at v;cases v)⟩
  ·exact Lp_re [] (ih g) (wkG mr_)
  ·have e2:(o2==n)=true:=by
    rcases q2 with q2|q2
    ·rw [q2] at w;cases w
    ·simp [q2.2]
   rw [e2]
   exact Lp_re [] (ih g) (wkG mr_)
  ·rcases q2 with q2|q2
   ·rw [q2] at w;cases w
   ·rw [q2.1] at w2;simp at w2
 ·rw [wrap_i64 (x:=(l:Int)+1) (by omega)]
  refine condC (fun _=>⟨hE,?_⟩) (fun v=>by simp at v;omega)
  have e:(bif true then decide ((l6:Int)<=(l:Int)) else false)=true:=by simp;omega
  rw [e];exact h E mr_
theorem ul6 {E:Mem} {b b4 b6:Option Addr} {l c l4 c4 l6 c6:Nat} {o n:Int} {xs ys ws:List (List Int)} {E0:Mem} (h1:SL (RK .i64 5) E b l c xs) (h2:SL (RK .i64 5) E b4 l4 c4 ys) (h3:SL (RK .i64 5) E b6 l6 c6 ws) (hl:l<=16/\l4<=16/\l6<=16) (p1:∀ x∈xs,ys.any (isN (x.getD 0 0) (x.getD 1 0))=true) (p2:∀ x∈xs,ws.any (isN (x.getD 0 0) (x.getD 1 0))=true\/(x.getD 0 0=o/\x.getD 1 0=n)) (p3:l4<=l+1/\l6<=l) (hE:Mem.le E0 E) (h:∀ E':Mem,Mem.le E E'->K (B true) E'):∀ {r i:Nat},i+r=l->Lp WL6 8 Try.f6 [1,1,1,1,1,1,1,1,1,0,1,0] 0 (pubK E0 K) (us6 b b4 b6 l c l4 c4 l6 c6 o n i E)
 | 0,i,hi=>Lp_ind (ι:=Unit) okWL6 (fun _=>us6 b b4 b6 l c l4 c4 l6 c6 o n i E) (fun _=>0) (fun _ _=>ur6 h1 h2 h3 hl p1 p2 p3 hE h (by omega) (fun g=>by omega)) ()
 | r+1,i,hi=>Lp_ind (ι:=Unit) okWL6 (fun _=>us6 b b4 b6 l c l4 c4 l6 c6 o n i E) (fun _=>0) (fun _ _=>ur6 h1 h2 h3 hl p1 p2 p3 hE h (by omega) (fun g=>ul6 h1 h2 h3 hl p1 p2 p3 hE h (r:=r) (i:=i+1) (by omega))) ()
theorem e6 {a1:Int} {b1:Option Addr} {l1:Nat} {c1:Nat} {z1:List Int} {a2:Int} {a3:Int} {a4:Int} {a5:Int} {a6:Int} {a7:Int} {a8:Int} {a9:Int} (ha1:(Lit.int .i64 a1).wf=true) (hB1:Bs E b1 l1 c1 z1) (ha2:(Lit.int .i64 a2).wf=true) (ha3:(Lit.int .i64 a3).wf=true) (ha4:(Lit.int .i64 a4).wf=true) (ha5:(Lit.int .i64 a5).wf=true) (ha6:(Lit.int .i64 a6).wf=true) (ha7:(Lit.int .i64 a7).wf=true) (ha8:(Lit.int .i64 a8).wf=true) (ha9:(Lit.int .i64 a9).wf=true) (h:∀ E':Mem,Mem.le E E'->K (B true) E'):
  Ent WL6 8 Try.f6 [.agg [I a1,L b1 l1 c1],I a2,.agg [I a3,I a4,I a5,I a6,I a7],I a8,I a9] E K:=by
 refine sm_ (?_:∀ (E':Mem),Mem.le E E'->Mem.le E E'/\∃ (zs:List Int),Bs E' b1 l1 c1 zs/\∀ (b':Option Addr) (l' c':Nat) (xs:List (List Int)) (cnt e:Int) (E'_1:Mem),Mem.le E' E'_1->Hyp (heldF a2 a1 zs=((xs,cnt),e))->SL (RK IntKind.i64 5) E'_1 b' l' c' xs->l'<=16->Mem.le E' E'_1/\bif e !=(0:Int) then Mem.le E E'_1/\K (B true) E'_1 else ∃ (zs:List Int),Bs E'_1 b1 l1 c1 zs/\∀ (b'_1:Option Addr) (l'_1 c'_1:Nat) (ms:List (Int×List Int)) (e_1:Int) (E':Mem),Mem.le E'_1 E'->Hyp (takeF a2 a1 zs a3 a4 a5 a6 a7=(ms,e_1))->FL E' b'_1 l'_1 c'_1 ms->Mem.le E'_1 E'/\∃ (zs:List Int),Bs E' b1 l1 c1 zs/\∀ (b'_2:Option Addr) (l'_2 c'_2:Nat) (ms:List (Int×List Int)) (e_2:Int) (E'_2:Mem),Mem.le E' E'_2->Hyp (giveF a2 a1 zs a8 a9=(ms,e_2))->FL E'_2 b'_2 l'_2 c'_2 ms->Mem.le E' E'_2/\∃ (zs:List Int),∃ (ms:List (Int×List Int)),Bs E'_2 b1 l1 c1 zs/\FL E'_2 b'_1 l'_1 c'_1 ms/\l'_1<=100000/\∀ (s':Int) (b'_3:Option Addr) (l'_3 c'_3:Nat) (ys:List Int) (E':Mem),Mem.le E'_2 E'->Hyp (lastF (a1,zs) ms e_1=(s',ys))->Bs E' b'_3 l'_3 c'_3 ys->Mem.le E'_2 E'/\∃ (zs:List Int),Bs E' b'_3 l'_3 c'_3 zs/\∀ (b'_4:Option Addr) (l'_4 c'_4:Nat) (xs:List (List Int)) (cnt_1 e_3:Int) (E'_3:Mem),Mem.le E' E'_3->Hyp (heldF a2 s' zs=((xs,cnt_1),e_3))->SL (RK IntKind.i64 5) E'_3 b'_4 l'_4 c'_4 xs->l'_4<=16->Mem.le E' E'_3/\∃ (zs:List Int),∃ (ms:List (Int×List Int)),Bs E'_3 b1 l1 c1 zs/\FL E'_3 b'_2 l'_2 c'_2 ms/\l'_2<=100000/\∀ (s'_1:Int) (b'_5:Option Addr) (l'_5 c'_5:Nat) (ys:List Int) (E':Mem),Mem.le E'_3 E'->Hyp (lastF (a1,zs) ms e_2=(s'_1,ys))->Bs E' b'_5 l'_5 c'_5 ys->Mem.le E'_3 E'/\∃ (zs:List Int),Bs E' b'_5 l'_5 c'_5 zs/\∀ (b'_6:Option Addr) (l'_6 c'_6:Nat) (xs:List (List Int)) (cnt_2 e_4:Int) (E'_4:Mem),Mem.le E' E'_4->Hyp (heldF a2 s'_1 zs=((xs,cnt_2),e_4))->SL (RK IntKind.i64 5) E'_4 b'_6 l'_6 c'_6 xs->l'_6<=(16:Nat)->Mem.le E' E'_4/\bif e_3 !=(0:Int) then Mem.le E E'_4/\K (B false) E'_4 else bif bif false then true else e_4 !=(0:Int) then Mem.le E E'_4/\K (B false) E'_4 else Lp WL6 8 Try.f6 [(1:Nat),(1:Nat),(1:Nat),(1:Nat),(1:Nat),(1:Nat),(1:Nat),(1:Nat),(1:Nat),(0:Nat),(1:Nat),(0:Nat)] (0:Nat) (pubK E K) { fr:=some (SV.agg [I a1,L b1 l1 c1])::oI a2::some (SV.agg [I a3,I a4,I a5,I a6,I a7])::oI a8::oI a9::oc 0 0::none::oc 1 0::none::none::oB false::oB true::oL b' l' c'::oI cnt::oI e::oL b'_1 l'_1 c'_1::oI e_1::oL b'_2 l'_2 c'_2::oI e_2::oL b'_4 l'_4 c'_4::oI cnt_1::oI e_3::oL b'_6 l'_6 c'_6::oI cnt_2::oI e_4::oI 0::none::none::none::oB true::some (SV.tup [L b' l' c',I cnt,I e])::some (SV.agg [I a1,L b1 l1 c1])::oI a2::some (SV.tup [L b' l' c',I cnt,I e])::oL b' l' c'::oI cnt::oI e::oI e::oB (e !=(0:Int))::none::some (SV.tup [L b'_1 l'_1 c'_1,I e_1])::some (SV.agg [I a1,L b1 l1 c1])::oI a2::some (SV.agg [I a3,I a4,I a5,I a6,I a7])::some (SV.tup [L b'_1 l'_1 c'_1,I e_1])::oL b'_1 l'_1 c'_1::oI e_1::some (SV.tup [L b'_2 l'_2 c'_2,I e_2])::some (SV.agg [I a1,L b1 l1 c1])::oI a2::oI a8::oI a9::some (SV.tup [L b'_2 l'_2 c'_2,I e_2])::oL b'_2 l'_2 c'_2::oI e_2::some (SV.tup [L b'_4 l'_4 c'_4,I cnt_1,I e_3])::some (SV.agg [I a1,L b1 l1 c1])::oL b'_1 l'_1 c'_1::oI e_1::some (SV.agg [I s',L b'_3 l'_3 c'_3])::oI a2::some (SV.tup [L b'_4 l'_4 c'_4,I cnt_1,I e_3])::oL b'_4 l'_4 c'_4::oI cnt_1::oI e_3::some (SV.tup [L b'_6 l'_6 c'_6,I cnt_2,I e_4])::some (SV.agg [I a1,L b1 l1 c1])::oL b'_2 l'_2 c'_2::oI e_2::some (SV.agg [I s'_1,L b'_5 l'_5 c'_5])::oI a2::some (SV.tup [L b'_6 l'_6 c'_6,I cnt_2,I e_4])::oL b'_6 l'_6 c'_6::oI cnt_2::oI e_4::oI e_3::oB (e_3 !=(0:Int))::oB false::oI e_4::oB (e_4 !=(0:Int))::oB (bif false then true else e_4 !=(0:Int))::no32 (no16 (no8 (none::[]))),bx:=[(⟨(24:Nat),Row.lst [I a1,L b1 l1 c1],(2:Nat),true⟩:Box),⟨(26:Nat),Row.lst [I a3,I a4,I a5,I a6,I a7],(5:Nat),true⟩],E:=E'_4:St })
 delta no8 no16 no32
 refine fun EA kA=>⟨kA,z1,hB1.mono kA,fun b b' b'' xs cnt e EB kB nB SB lB=>⟨kB,?_⟩⟩
 have nB:heldF a2 a1 z1=((xs,cnt),e):=nB
 have kb:=mt_ kA kB
 refine condC (fun _=>⟨kb,h EB kb⟩) (fun g=>?_)
 have g:e=0:=by simpa using g
 subst g
 have bz:=hB1.2.2.2.1
 refine ⟨z1,hB1.mono kb,fun bC lC cC mC eC EC kC nC FC=>⟨kC,z1,hB1.mono (mt_ kb kC),fun bD lD cD mD eD ED kD nD FD=>⟨kD,?_⟩⟩⟩
 have nC:takeF a2 a1 z1 a3 a4 a5 a6 a7=(mC,eC):=nC
 have nD:giveF a2 a1 z1 a8 a9=(mD,eD):=nD
 have kd:=mt_ kb (mt_ kC kD)
 have tn:=take_num a2 a1 z1 a3 a4 a5 a6 a7
 have gn:=give_num a2 a1 z1 a8 a9
 rw [nC] at tn
 rw [nD] at gn
 have tn:mC.length<=40000:=tn
 have gn:mD.length<=40000:=gn
 have lC':=FC.len
 have lD':=FD.len
 obtain ⟨st1,t1,t2⟩:=take_last bz nB nC
 obtain ⟨st2,t3,t4⟩:=give_last bz nB nD
 refine ⟨z1,mC,hB1.mono kd,FC.mono kD,by omega,fun s1 b1' l1' c1' y1 EE kE nE BE=>⟨kE,y1,BE,fun bF lF cF xF cnF eF EF kF nF SF lF'=>⟨kF,z1,mD,hB1.mono (mt_ kd (mt_ kE kF)),FD.mono (mt_ kE kF),by omega,fun s2 b2' l2' c2' y2 EG kG nG BG=>⟨kG,y2,BG,fun bH lH cH xH cnH eH EH kH nH SH lH'=>⟨kH,?_⟩⟩⟩⟩⟩
 have kh:=mt_ kd (mt_ (mt_ kE kF) (mt_ kG kH))
 have nE:lastF (a1,z1) mC eC=(s1,y1):=nE
 have nG:lastF (a1,z1) mD eD=(s2,y2):=nG
 rw [nE] at t1
 rw [nG] at t3
 have nF:heldF a2 s1 y1=((xF,cnF),eF):=nF
 have nH:heldF a2 s2 y2=((xH,cnH),eH):=nH
 have t1:heldF a2 s1 y1=(st1,0):=t1
 have t3:heldF a2 s2 y2=(st2,0):=t3
 rw [nF] at t1
 rw [nH] at t3
 obtain ⟨u1,v1⟩:=Prod.mk.inj t1
 obtain ⟨u3,v3⟩:=Prod.mk.inj t3
 subst v1;subst v3;subst u1;subst u3
 refine condC (fun v=>absurd v (by decide)) (fun _=>condC (fun v=>absurd v (by decide)) (fun _=>?_))
 have p1:∀ x∈xs,xF.any (isN (x.getD 0 0) (x.getD 1 0))=true:=fun x hx=>by
  rcases t2 with t2|t2
  ·rw [(Prod.mk.inj t2).1];exact any_self hx
  ·rw [show xF=xs++[_] from t2];exact any_app hx
 have p2:∀ x∈xs,xH.any (isN (x.getD 0 0) (x.getD 1 0))=true\/(x.getD 0 0=a8/\x.getD 1 0=a9):=fun x hx=>by
  rcases t4 with t4|t4
  ·rw [(Prod.mk.inj t4).1];exact .inl (any_self hx)
  ·rw [show xH=xs.filter _ from t4];exact any_fil hx
 have n1:=SB.len
 have n2:=SF.len
 have n3:=SH.len
 have p3:lF<=b'+1/\lH<=b':=by
  constructor
  ·rcases t2 with t2|t2
   ·have :xF=xs:=(Prod.mk.inj t2).1
    rw [this] at n2;omega
   ·have :xF=xs++[_]:=t2
    rw [this] at n2;simp at n2;omega
  ·rcases t4 with t4|t4
   ·have :xH=xs:=(Prod.mk.inj t4).1
    rw [this] at n3;omega
   ·have e:xH=xs.filter fun x=> !isN a8 a9 x:=t4
    have:=List.length_filter_le (fun x=> !isN a8 a9 x) xs
    rw [← e] at this;omega
 have k1:Mem.le EB EH:=mt_ (mt_ kC kD) (mt_ (mt_ kE kF) (mt_ kG kH))
 have ok:RowOK 5 (RK .i64 5):=RK_ok .i64 (by decide)
 exact Lp_re [] (ul6 (E0:=E) (SB.mono ok k1) (SF.mono ok (mt_ kG kH)) SH ⟨lB,lF',lH'⟩ p1 p2 p3 kh (fun E2 k2=>h E2 (mt_ kh k2)) (r:=b') (i:=0) (by omega)) (wkG mr_)
theorem opn6 (W:World) (K:List SV->Prop) (h:∀ a1:Int,(Lit.int .i64 a1).wf=true->∀ (b1:Option Addr) (l1 c1:Nat) (z1:List Int),(l1<=c1)->(c1<=maxLen)->(b1=none->c1=0)->(z1.length=c1)->(∀ x∈z1,(Lit.int .u8 x).wf=true)->RowAt W (.slice b1 l1 c1) (z1.map (.int .u8))->∀ a2:Int,(Lit.int .i64 a2).wf=true->∀ a3:Int,(Lit.int .i64 a3).wf=true->∀ a4:Int,(Lit.int .i64 a4).wf=true->∀ a5:Int,(Lit.int .i64 a5).wf=true->∀ a6:Int,(Lit.int .i64 a6).wf=true->∀ a7:Int,(Lit.int .i64 a7).wf=true->∀ a8:Int,(Lit.int .i64 a8).wf=true->∀ a9:Int,(Lit.int .i64 a9).wf=true->K [.agg [I a1,L b1 l1 c1],I a2,.agg [I a3,I a4,I a5,I a6,I a7],I a8,I a9]):opnAll Try.prog W Try.f6.params.toList K:=
 same (by kernel_rfl) h
theorem sem6 (W:World):opnAll Try.prog W Try.f6.params.toList fun ss=>TabSem Try.prog 6 ss (fun v cs=>RowAt W v cs) fun r _=>r= .raw (.bool true):=by
 refine opn6 W _ ?_
 intro a1 ha1 b1 l1 c1 z1 hl1 hc1 hb1 hz1 hw1 hE1 a2 ha2 a3 ha3 a4 ha4 a5 ha5 a6 ha6 a7 ha7 a8 ha8 a9 ha9
 exact esm okWL6 Try.func6 rfl (e6 ha1 (Bs.of hl1 hb1 hz1 hw1 hE1) ha2 ha3 ha4 ha5 ha6 ha7 ha8 ha9 (fun _ _=>rfl))
theorem lifted6 (os:Os) (started:os.Started) (H:Type) (enc:TypeId×Value->H):
  ReturnsInHanded {} Try.checked os 6 .any (Rows.custodyOthersSpec.pre6 enc Try.prog Try.f6 Rows.custodyOthersRow.domain false) (Rows.custodyOthersSpec.post enc Try.prog Try.f6 false true false false):=
 lift_true (C:=Try.checked) (by kernel_rfl) (by kernel_rfl) started (by kernel_rfl) Try.func6
  (ChangeSpec.witness6 (enc:=enc) (C:=Try.checked) false ⟨#[],#[.agg #[.int .i64 0,.slice none 0 0],.int .i64 0,.agg #[.int .i64 0,.int .i64 0,.int .i64 0,.int .i64 0,.int .i64 0],.int .i64 0,.int .i64 0],[]⟩ 8 (by kernel_rfl) (by kernel_rfl) (by kernel_rfl) (by kernel_rfl))
  (Tb:=4) (by kernel_rfl) (by kernel_rfl) (by kernel_rfl) rfl
  (fun ds hl=>by
   match ds,hl with
   | [d0,d1,d2,d3,d4],_=>exact ⟨rfl,rfl,rfl⟩)
  sem6
theorem over6:Rows.custodyOthersRow.holds Try.pinned (OpenSpec.ofChange Rows.custodyOthersSpec):=
 OpenClaim.holds_of_wide 6 Try.f6 rfl rfl rfl rfl rfl rfl rfl ⟨rfl,rfl,rfl,rfl,rfl⟩ rfl rfl rfl rfl rfl (by kernel_rfl) Try.func6 (by kernel_rfl)
  (of_decide_eq_true (by kernel_rfl)) (by unfold Func.isWrapper;first|(rw [if_pos (by decide+kernel)];kernel_rfl)|(rw [if_neg (by decide+kernel)];exact ⟨rfl,rfl⟩))
  (fun os started H enc _=>lifted6 os started H enc)
theorem proved6:Rows.CustodyOthersSaid:=over6
end Go.Proofs.Ytdaakdbkmjgloaa.CustodyOwn
