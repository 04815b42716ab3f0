/- The law's proof: for every input the law answers true. Conditions: none. -/
import Derived.Test.YtdblighgcpabnaaBg18
import Derived.OpenShut
import Derived.Test.YtdblighgcpabnaaRows
namespace Go.Proofs.Ytdblighgcpabnaa.BootOwn
open Go Go.Sx Go.Proofs.Ytdblighgcpabnaa
set_option maxRecDepth 100000
set_option maxHeartbeats 4000000
set_option linter.unusedVariables false
set_option linter.unusedSimpArgs false
variable {E:Mem} {K:SV->Mem->Prop}
theorem q13E {a1:Int} {b2:Option Addr} {l3:Nat} {c4:Nat} {a5:Int} {b6:Option Addr} {l7:Nat} {c8:Nat} {zs:List Int} (h0:Bs E b2 l3 c4 zs) (h1:Bs E b6 l7 c8 zs) (h2:l3<=100000) (h3:a1=a5) (h:K (B true) E):
  Ent FA 8 Try.f13 [.agg [I a1,L b2 l3 c4],.agg [I a5,L b6 l7 c8]] E K:=by
 exact s13 h0 h1 h2 (by rw [decide_eq_true ⟨h3,rfl⟩];exact h)
theorem q25G {b1:Option Addr} {l2:Nat} {c3:Nat} {b4:Option Addr} {l5:Nat} {c6:Nat} {xs:List Int} {ys:List Int} (h0:Bs E b1 l2 c3 xs) (h1:Bs E b4 l5 c6 ys) (h:((l2<=60/\l5<=60)->∀ (b':Option Addr) (l' c':Nat) (y:List Int) (E':Mem),Mem.le E E'->Hyp (Run y xs ys)->Bs E' b' l' c' y->K (.tup [.agg [I 128,L b' l' c'],B true]) E')/\(¬ (l2<=60/\l5<=60)->K (.tup [.agg [I 0,L none 0 0],B false]) E)):
  Ent Q4 8 Try.f25 [L b1 l2 c3,L b4 l5 c6] E K:=by
 refine sm_ (?_:bif decide ((NI l2)>60) then Mem.le E E/\K (SV.tup [SV.agg [I 0,L none 0 0],B false]) E else bif bif false then true else decide ((NI l5)>60) then Mem.le E E/\K (SV.tup [SV.agg [I 0,L none 0 0],B false]) E else ∃ (zs:List Int),∃ (s':Int),∃ (ys:List Int),∃ (e:Int),Bs E b1 l2 c3 zs/\formatB 3 zs=((s',ys),e)/\∀ (b':Option Addr) (l' c':Nat) (E':Mem),Mem.le E E'->Bs E' b' l' c' ys->Mem.le E E'/\∃ (zs:List Int),∃ (p:List Int),∃ (ms:List (Int×List Int)),∃ (e_1:Int),Bs E' b' l' c' zs/\Bs E' b4 l5 c6 p/\installF s' zs 7 p=(ms,e_1)/\∀ (b':Option Addr) (l' c':Nat) (E'_1:Mem),Mem.le E' E'_1->FL E'_1 b' l' c' ms->Mem.le E' E'_1/\∃ (X:List (Int×List Int)),∃ (w:List Int),FL E'_1 b' l' c' (X++[((128:Int),w)])/\e_1=(0:Int)/\l'<=100000/\∀ (b':Option Addr) (l' c':Nat) (E':Mem),Mem.le E'_1 E'->Bs E' b' l' c' w->Mem.le E'_1 E'/\∃ (zs:List Int),∃ (ms:List (Int×List Int)),∃ (e_2:Int),Bs E' b' l' c' zs/\markF 128 zs 7 (1:Int)=(ms,e_2)/\∀ (b':Option Addr) (l' c':Nat) (E'_2:Mem),Mem.le E' E'_2->FL E'_2 b' l' c' ms->Mem.le E' E'_2/\∃ (X:List (Int×List Int)),∃ (w:List Int),FL E'_2 b' l' c' (X++[((128:Int),w)])/\e_2=(0:Int)/\l'<=100000/\∀ (b':Option Addr) (l' c':Nat) (E':Mem),Mem.le E'_2 E'->Bs E' b' l' c' w->Mem.le E'_2 E'/\bif e==(0:Int) then Mem.le E E'/\K (SV.tup [SV.agg [I 128,L b' l' c'],B true]) E' else Mem.le E E'/\K (SV.tup [SV.agg [I 128,L b' l' c'],B false]) E')
 delta NI
 have hl0:=h0.2.1
 have hl1:=h1.2.1
 refine condC (fun g=>?_) (fun g1=>condC (fun g=>?_) (fun g2=>?_))
 ·exact ⟨mr_,h.2 (by simp at g;omega)⟩
 ·exact ⟨mr_,h.2 (by simp at g;omega)⟩
 have g1:l2<=60:=by simp at g1;omega
 have g2:l5<=60:=by simp at g2;omega
 obtain ⟨f,x,y,X,e1,e2,e3,R⟩:=run_ok (p0:=xs) (p1:=ys) (by omega) (by omega) h0.2.2.2.1 h1.2.2.2.1
 refine ⟨xs,128,f,0,h0,e1,fun b1' l1' c1' E1 k1 B1=>⟨k1,f,ys,_,0,B1,h1.mono k1,e2,fun b2' l2' c2' E2 k2 F2=>⟨k2,X,x,F2,rfl,?_,fun b3' l3' c3' E3 k3 B3=>⟨k3,x,_,0,B3,e3,fun b4' l4' c4' E4 k4 F4=>⟨k4,[(128,x)],y,F4,rfl,?_,fun b5' l5' c5' E5 k5 B5=>⟨k5,condC (fun _=>?_) (fun g=>absurd g (by decide))⟩⟩⟩⟩⟩⟩
 ·have:=F2.len
  have q:=inst_num (s:=128) (z:=f) (v:=7) (p:=ys)
  rw [e2] at q
  have q:(X++[((128:Int),x)]).length<=9000:=q
  omega
 ·have:=F4.len
  simp at this;omega
 ·have kk:=mt_ k1 (mt_ k2 (mt_ k3 (mt_ k4 k5)))
  exact ⟨kk,h.1 ⟨g1,g2⟩ b5' l5' c5' y E5 kk R B5⟩
def mk3 (x y w:Int):Int:=if w=0 then 3 else if y=0 then 2 else if x=0 then 1 else 0
structure Mkd (z p0 p1:List Int) (a b:Int):Prop where
 len:z.length=8448
 byt:∀ x∈z,0<=x/\x<=255
 h0:Hold z 0 3 p0
 h1:Hold z 4224 7 p1
 ga:mk3 (z.getD 15 0) (z.getD 16 0) (z.getD 17 0)=a
 gb:mk3 (z.getD 4239 0) (z.getD 4240 0) (z.getD 4241 0)=b
theorem Run.mkd {z p0 p1:List Int} (R:Run z p0 p1):Mkd z p0 p1 2 1:=
 ⟨R.len,R.byt,R.h0,R.h1,by rw [R.a15,R.a16,R.a17];rfl,by rw [R.b15,R.b16,R.b17];rfl⟩
theorem Mkd.prog {z p0 p1:List Int} {a b:Int} (R:Mkd z p0 p1 a b):progB (bankF z 0)=(3,p0)/\progB (bankF z 1)=(7,p1):=⟨Hold.prog (k:=0) R.h0 R.len (by decide),Hold.prog (k:=1) R.h1 R.len (by decide)⟩
theorem Mkd.find {z p0 p1:List Int} {a b:Int} (R:Mkd z p0 p1 a b):findF z 3=((0:Nat):Int)/\findF z 7=((1:Nat):Int):=by
 obtain ⟨q0,q1⟩:=R.prog
 exact ⟨find_eq (.inl ⟨rfl,by rw [q0]⟩) (by decide),find_eq (.inr ⟨rfl,by rw [q0];show (3:Int)≠7;decide,by rw [q1]⟩) (by decide)⟩
theorem Mkd.marks {z p0 p1:List Int} {a b:Int} (R:Mkd z p0 p1 a b):marksF 128 z 3=a/\marksF 128 z 7=b:=by
 obtain ⟨q0,q1⟩:=R.find
 have g:∀ {k j:Nat},j<4224->(bankF z k).getD j 0=z.getD (4224*k+j) 0:=fun h=>bank_get h
 constructor
 ·unfold marksF
  rw [if_neg (fun q=>q ⟨rfl,R.len⟩),q0,if_neg (by omega),Int.toNat_natCast]
  unfold markB
  rw [g (by decide),g (by decide),g (by decide)]
  exact R.ga
 ·unfold marksF
  rw [if_neg (fun q=>q ⟨rfl,R.len⟩),q1,if_neg (by omega),Int.toNat_natCast]
  unfold markB
  rw [g (by decide),g (by decide),g (by decide)]
  exact R.gb
def mx (a b:Int):Int:=if b>a then b else a
theorem mk3_set {x y w:Int} {m:Nat} (hm:1<=m/\m<=3):mk3 (if m=1 then 0 else x) (if m=2 then 0 else y) (if m=3 then 0 else w)=mx (mk3 x y w) m:=by
 have :m=1\/m=2\/m=3:=by omega
 unfold mk3 mx
 rcases this with rfl|rfl|rfl<;>by_cases h1:w=0<;>by_cases h2:y=0<;>by_cases h3:x=0<;>simp [h1,h2,h3]
theorem Mkd.mark {z p0 p1:List Int} {a b:Int} (R:Mkd z p0 p1 a b) {k m:Nat} {v:Int} (hk:(k=0/\v=3)\/(k=1/\v=7)) (hm:1<=m/\m<=3):
  ∃ w,markF 128 z v m=([(128,z),(128,w)],0)/\markF 128 w v m=([(128,w),(128,w)],0)/\Mkd w p0 p1 (if v=3 then mx a m else a) (if v=7 then mx b m else b)/\
   ∀ j,j≠4224*k+14+m->w.getD j 0=z.getD j 0:=by
 have hk2:k<2:=by omega
 have hf:∀ {z:List Int} {a b:Int},Mkd z p0 p1 a b->findF z v=(k:Nat):=fun R=>by
  rcases hk with ⟨rfl,rfl⟩|⟨rfl,rfl⟩
  ·exact R.find.1
  ·exact R.find.2
 obtain ⟨w,e1,w1,w2,w3⟩:=mark_ok R.len R.byt (hf R) hk2 hm
 have W:Mkd w p0 p1 (if v=3 then mx a m else a) (if v=7 then mx b m else b):=by
  refine ⟨w1,w2,R.h0.congr fun j hj hn=>?_,R.h1.congr fun j hj hn=>?_,?_,?_⟩
  ·rw [w3,if_neg (by omega)]
  ·rw [w3,if_neg (by omega)]
  ·rcases hk with ⟨rfl,rfl⟩|⟨rfl,rfl⟩
   ·rw [if_pos rfl,← R.ga,← mk3_set hm,w3,w3,w3]
    congr 1
    ·congr 1;simp only [eq_iff_iff];omega
    ·congr 1;simp only [eq_iff_iff];omega
    ·congr 1;simp only [eq_iff_iff];omega
   ·rw [if_neg (by decide),← R.ga,w3,w3,w3,if_neg (by omega),if_neg (by omega),if_neg (by omega)]
  ·rcases hk with ⟨rfl,rfl⟩|⟨rfl,rfl⟩
   ·rw [if_neg (by decide),← R.gb,w3,w3,w3,if_neg (by omega),if_neg (by omega),if_neg (by omega)]
   ·rw [if_pos rfl,← R.gb,← mk3_set hm,w3,w3,w3]
    congr 1
    ·congr 1;simp only [eq_iff_iff];omega
    ·congr 1;simp only [eq_iff_iff];omega
    ·congr 1;simp only [eq_iff_iff];omega
 obtain ⟨u,e2,u1,u2,u3⟩:=mark_ok W.len W.byt (hf W) hk2 hm
 have :u=w:=by
  apply List.ext_getElem?
  intro j
  have h1:=u3 j
  rw [w3] at h1
  have h2:=w3 j
  by_cases hj:j<8448
  ·rw [List.getD_eq_getElem?_getD,List.getElem?_eq_getElem (by omega)] at h1 h2
   rw [List.getElem?_eq_getElem (by omega),List.getElem?_eq_getElem (by omega)]
   simp only [Option.getD_some] at h1 h2
   by_cases c:j=4224*k+14+m
   ·rw [if_pos c] at h1 h2;rw [h1,h2]
   ·rw [if_neg c,if_neg c] at h1;rw [if_neg c] at h2;rw [h1,h2]
  ·rw [List.getElem?_eq_none (by omega),List.getElem?_eq_none (by omega)]
 subst this
 exact ⟨u,e1,e2,W,fun j hj=>by rw [w3,if_neg hj]⟩
noncomputable def tabL7:FuncId->List SV->Mem->(SV->Mem->Prop)->Prop:=fun f args E K=>match f with
 | 10=>d0 args ((∀ E':Mem,Mem.le E E'->K (B true) E'))
 | 25=>d2 args fun x0 x1=>dS x0 fun b1 l2 c3=>dS x1 fun b4 l5 c6=>∃ (xs:List Int) (ys:List Int),Bs E b1 l2 c3 xs/\Bs E b4 l5 c6 ys/\(((l2<=60/\l5<=60)->∀ (b':Option Addr) (l' c':Nat) (y:List Int) (E':Mem),Mem.le E E'->Hyp (Run y xs ys)->Bs E' b' l' c' y->K (.tup [.agg [I 128,L b' l' c'],B true]) E')/\(¬ (l2<=60/\l5<=60)->K (.tup [.agg [I 0,L none 0 0],B false]) E))
 | 17=>d3 args fun x0 x1 x2=>dC x0 fun l1=>d2 l1 fun x0_0 x0_1=>dI x0_0 fun a1=>dS x0_1 fun b2 l3 c4=>dI x1 fun a5=>dS x2 fun b6 l7 c8=>∃ (zs:List Int) (p:List Int) (ms:List (Int×List Int)) (e:Int),Bs E b2 l3 c4 zs/\Bs E b6 l7 c8 p/\installF a1 zs a5 p=(ms,e)/\(∀ (b':Option Addr) (l' c':Nat) (E':Mem),Mem.le E E'->FL E' b' l' c' ms->K (.tup [L b' l' c',I e]) E')
 | 19=>d3 args fun x0 x1 x2=>dC x0 fun l1=>d2 l1 fun x0_0 x0_1=>dI x0_0 fun a1=>dS x0_1 fun b2 l3 c4=>dI x1 fun a5=>dI x2 fun a6=>∃ (zs:List Int) (ms:List (Int×List Int)) (e:Int),Bs E b2 l3 c4 zs/\markF a1 zs a5 a6=(ms,e)/\(∀ (b':Option Addr) (l' c':Nat) (E':Mem),Mem.le E E'->FL E' b' l' c' ms->K (.tup [L b' l' c',I e]) E')
 | 27=>d2 args fun x0 x1=>dS x0 fun b1 l2 c3=>dI x1 fun a4=>∃ (X:List (Int×List Int)) (w:List Int),FL E b1 l2 c3 (X++[(128,w)])/\a4=0/\l2<=100000/\(∀ (b':Option Addr) (l' c':Nat) (E':Mem),Mem.le E E'->Bs E' b' l' c' w->K (.tup [.agg [I 128,L b' l' c'],B true]) E')
 | 26=>d3 args fun x0 x1 x2=>dC x0 fun l1=>d2 l1 fun x0_0 x0_1=>dI x0_0 fun a1=>dS x0_1 fun b2 l3 c4=>dI x1 fun a5=>dS x2 fun b6 l7 c8=>∃ (zs:List Int) (ds:List Int),Bs E b2 l3 c4 zs/\Bs E b6 l7 c8 ds/\selectF a1 zs=((a5,ds),0)/\l7<=100000/\(∀ E':Mem,Mem.le E E'->K (B true) E')
 | 23=>d2 args fun x0 x1=>dC x0 fun l1=>d2 l1 fun x0_0 x0_1=>dI x0_0 fun a1=>dS x0_1 fun b2 l3 c4=>dI x1 fun a5=>∃ (zs:List Int) (r:Int),Bs E b2 l3 c4 zs/\marksF a1 zs a5=r/\(∀ E':Mem,Mem.le E E'->K (I r) E')
 | 13=>d2 args fun x0 x1=>dC x0 fun l1=>d2 l1 fun x0_0 x0_1=>dI x0_0 fun a1=>dS x0_1 fun b2 l3 c4=>dC x1 fun l2=>d2 l2 fun x1_0 x1_1=>dI x1_0 fun a5=>dS x1_1 fun b6 l7 c8=>∃ (zs:List Int),Bs E b2 l3 c4 zs/\Bs E b6 l7 c8 zs/\l3<=100000/\a1=a5/\(K (B true) E)
 | _=>False
theorem tabL7_ok:TabOK Try.prog tabL7:=by
 intro f args E K h
 unfold tabL7 at h
 split at h
 ·obtain ⟨rfl,h⟩:=d0_elim h
  exact TabSem.congr rfl (esm okQ4 Try.func10 rfl (q10 h))
 ·replace h:=d2_elim h
  obtain ⟨x0,x1,rfl,h⟩:=h
  replace h:=dS_elim h
  obtain ⟨b1,l2,c3,rfl,h⟩:=h
  replace h:=dS_elim h
  obtain ⟨b4,l5,c6,rfl,h⟩:=h
  obtain ⟨xs,ys,g0,g1,h⟩:=h
  exact TabSem.congr (valL_cons rfl (valL_cons rfl rfl)) (esm okQ4 Try.func25 rfl (q25G g0 g1 h))
 ·replace h:=d3_elim h
  obtain ⟨x0,x1,x2,rfl,h⟩:=h
  replace h:=dC_elim h
  obtain ⟨l1,hl1,h⟩:=h
  replace h:=d2_elim h
  obtain ⟨x0_0,x0_1,rfl,h⟩:=h
  replace h:=dI_elim h
  obtain ⟨a1,rfl,h⟩:=h
  replace h:=dS_elim h
  obtain ⟨b2,l3,c4,rfl,h⟩:=h
  replace h:=dI_elim h
  obtain ⟨a5,rfl,h⟩:=h
  replace h:=dS_elim h
  obtain ⟨b6,l7,c8,rfl,h⟩:=h
  obtain ⟨zs,p,ms,e,g0,g1,g2,h⟩:=h
  exact TabSem.congr (valL_cons (asCells_val hl1) (valL_cons rfl (valL_cons rfl rfl))) (esm okP7 Try.func17 rfl (q17E g0 g1 g2 h))
 ·replace h:=d3_elim h
  obtain ⟨x0,x1,x2,rfl,h⟩:=h
  replace h:=dC_elim h
  obtain ⟨l1,hl1,h⟩:=h
  replace h:=d2_elim h
  obtain ⟨x0_0,x0_1,rfl,h⟩:=h
  replace h:=dI_elim h
  obtain ⟨a1,rfl,h⟩:=h
  replace h:=dS_elim h
  obtain ⟨b2,l3,c4,rfl,h⟩:=h
  replace h:=dI_elim h
  obtain ⟨a5,rfl,h⟩:=h
  replace h:=dI_elim h
  obtain ⟨a6,rfl,h⟩:=h
  obtain ⟨zs,ms,e,g0,g1,h⟩:=h
  exact TabSem.congr (valL_cons (asCells_val hl1) (valL_cons rfl (valL_cons rfl rfl))) (esm okP5 Try.func19 rfl (q19E g0 g1 h))
 ·replace h:=d2_elim h
  obtain ⟨x0,x1,rfl,h⟩:=h
  replace h:=dS_elim h
  obtain ⟨b1,l2,c3,rfl,h⟩:=h
  replace h:=dI_elim h
  obtain ⟨a4,rfl,h⟩:=h
  obtain ⟨X,w,g0,g1,g2,h⟩:=h
  exact TabSem.congr (valL_cons rfl (valL_cons rfl rfl)) (esm okQ2 Try.func27 rfl (q27H g0 g1 g2 h))
 ·replace h:=d3_elim h
  obtain ⟨x0,x1,x2,rfl,h⟩:=h
  replace h:=dC_elim h
  obtain ⟨l1,hl1,h⟩:=h
  replace h:=d2_elim h
  obtain ⟨x0_0,x0_1,rfl,h⟩:=h
  replace h:=dI_elim h
  obtain ⟨a1,rfl,h⟩:=h
  replace h:=dS_elim h
  obtain ⟨b2,l3,c4,rfl,h⟩:=h
  replace h:=dI_elim h
  obtain ⟨a5,rfl,h⟩:=h
  replace h:=dS_elim h
  obtain ⟨b6,l7,c8,rfl,h⟩:=h
  obtain ⟨zs,ds,g0,g1,g2,g3,h⟩:=h
  exact TabSem.congr (valL_cons (asCells_val hl1) (valL_cons rfl (valL_cons rfl rfl))) (esm okQ3 Try.func26 rfl (q26H g0 g1 g2 g3 h))
 ·replace h:=d2_elim h
  obtain ⟨x0,x1,rfl,h⟩:=h
  replace h:=dC_elim h
  obtain ⟨l1,hl1,h⟩:=h
  replace h:=d2_elim h
  obtain ⟨x0_0,x0_1,rfl,h⟩:=h
  replace h:=dI_elim h
  obtain ⟨a1,rfl,h⟩:=h
  replace h:=dS_elim h
  obtain ⟨b2,l3,c4,rfl,h⟩:=h
  replace h:=dI_elim h
  obtain ⟨a5,rfl,h⟩:=h
  obtain ⟨zs,r,g0,g1,h⟩:=h
  exact TabSem.congr (valL_cons (asCells_val hl1) (valL_cons rfl rfl)) (esm okP5 Try.func23 rfl (q23E g0 g1 h))
 ·replace h:=d2_elim h
  obtain ⟨x0,x1,rfl,h⟩:=h
  replace h:=dC_elim h
  obtain ⟨l1,hl1,h⟩:=h
  replace h:=d2_elim h
  obtain ⟨x0_0,x0_1,rfl,h⟩:=h
  replace h:=dI_elim h
  obtain ⟨a1,rfl,h⟩:=h
  replace h:=dS_elim h
  obtain ⟨b2,l3,c4,rfl,h⟩:=h
  replace h:=dC_elim h
  obtain ⟨l2,hl2,h⟩:=h
  replace h:=d2_elim h
  obtain ⟨x1_0,x1_1,rfl,h⟩:=h
  replace h:=dI_elim h
  obtain ⟨a5,rfl,h⟩:=h
  replace h:=dS_elim h
  obtain ⟨b6,l7,c8,rfl,h⟩:=h
  obtain ⟨zs,g0,g1,g2,g3,h⟩:=h
  exact TabSem.congr (valL_cons (asCells_val hl1) (valL_cons (asCells_val hl2) rfl)) (esm okFA Try.func13 rfl (q13E g0 g1 g2 g3 h))
 ·exact h.elim
noncomputable def WL7:Cx:={ P:=Try.prog,inl:=fun f=>List.contains [] f,tab:=tabL7,isB:=fun _=>false,tabB:=fun _ _ _ _ _=>False,opt:={ unroll:=0,carry:=[19,48,111],cuts:=[] },muts:=mutsD }
theorem okWL7:CxOK WL7:=CxOK.four tabL7_ok (by kernel_rfl) (okInl (by kernel_rfl)) (fun _ _ _ _ _ h=>h.elim)
def sh7 (b3 bY:Option Addr) (l3 c3 cY:Nat) (a b:Int) (i:Nat) (E:Mem):St:=⟨[none,none,none,none,none,none,none,oB true,oc 0 0,none,some (.mp false 1),none,none,none,none,none,none,none,none,none,none,none,none,none,none,none,none,none,none,none,none,none,none,none,none,none,none,none,none,none,none,none,none,none,none,none,oL b3 l3 c3,oI (l3:Nat),oI (i:Nat)]++List.replicate 119 none,[⟨24,.lst [I 128,L bY 8448 cY],2,true⟩,⟨4294967297,.lst [I 3,I a,I 7,I b],4,true⟩],E⟩
def sh7i (b3 bY bL bA:Option Addr) (l3 c3 cY cL cA:Nat) (a b v:Int) (m i d k:Nat) (E:Mem):St:=⟨[none,none,none,none,none,none,none,oB true,oc 0 0,none,some (.mp false 1),none,none,oI v,oI (m:Nat),oL bL 2 cL,none,oc 2 0,oB true,oI (d:Nat),none,none,none,none,none,none,none,none,none,none,none,none,none,none,none,none,none,none,none,none,none,none,none,none,none,none,oL b3 l3 c3,oI (l3:Nat),oI (i:Nat),none,none,none,none,none,none,none,none,none,none,none,none,none,none,none,none,none,none,none,none,none,none,none,none,none,none,none,none,none,none,none,none,none,none,none,none,none,none,none,none,none,none,none,none,none,none,none,none,none,none,none,none,none,none,none,none,none,none,none,none,none,oI (8448:Nat),oI (k:Nat)]++List.replicate 56 none,[⟨24,.lst [I 128,L bY 8448 cY],2,true⟩,⟨4294967297,.lst [I 3,I a,I 7,I b],4,true⟩,⟨24,.lst [I 128,L bA 8448 cA],2,true⟩],E⟩
theorem row_field {rs:List FRow} {i:Nat} {r:FRow} (h:rs[i]? =some r):loadW Try.prog 22 ((rs.flatMap rowV).map .raw) (i*2+1)=some (L r.2.1 r.2.2.1 r.2.2.2):=by
 have key:∀ (rs:List FRow) (i:Nat),rs[i]? =some r->((rs.flatMap rowV).map SV.raw)[i*2+1]? =some (L r.2.1 r.2.2.1 r.2.2.2):=by
  intro rs
  induction rs with
  | nil=>intro i h;simp at h
  | cons x rs ih=>
   intro i h
   cases i with
   | zero=>simp at h;subst h;simp [rowV]
   | succ i=>
    have:=ih i (by simpa using h)
    rw [show (i+1)*2+1=2+(i*2+1) by omega,List.flatMap_cons,List.map_append,List.getElem?_append_right (by simp [rowV])]
    rw [show 2+(i*2+1)-(List.map SV.raw (rowV x)).length=i*2+1 by simp [rowV]]
    exact this
 have hu:Try.prog.underlying 22=some (.slice 5):=by kernel_rfl
 unfold loadW
 rw [hu]
 exact key rs i h
theorem FL.field {b:Option Addr} {n c:Nat} {ms:List (Int×List Int)} (h:FL E b n c ms) {i:Nat} {m:Int×List Int} (hm:ms[i]? =some m):
  ∃ (b':Option Addr) (l' c':Nat),LoadE Try.prog E 22 (.slice b n c) (i*2+1) (L b' l' c')/\Bs E b' l' c' m.2:=by
 obtain ⟨rs,h1,h2,h3,h4,h5⟩:=h
 have hi:i<ms.length:=(List.getElem?_eq_some_iff.1 hm).1
 have hE:=h4.resolve_left (by omega)
 obtain ⟨r,er⟩:∃ r,rs[i]? =some r:=⟨_,List.getElem?_eq_getElem (by rw [h1.1];exact hi)⟩
 obtain ⟨q1,q2⟩:=h1.2 i r m er hm
 exact ⟨r.2.1,r.2.2.1,r.2.2.2,⟨_,hE,row_field er⟩,q2⟩
theorem r7i3 {b3 bY bL bA:Option Addr} {l3 c3 cY cL cA i m q:Nat} {a b:Int} {y w z1 z2:List Int} {E0:Mem} (FX:FL E bL 2 cL [((128:Int),y),((128:Int),w)]) (BY:Bs E bY 8448 cY y) (BA:Bs E bA 8448 cA w) (yl:y.length=8448) (W:Mkd w z1 z2 (mx a m) b) (hq:∀ j,j≠q->w.getD j 0=y.getD j 0) (hi:i<10) (hE:Mem.le E0 E) {d k:Nat} (hd:d<=1/\(k<=q->d=0)) (hk:k<=8448)
  (ih:∀ d',k<8448->d'<=1->(k+1<=q->d'=0)->Lp WL7 8 Try.f7 [1,1,1,1,1,1,0,1,0,0,1,1,0,0,1,1,1,1,1,1,0,1,0] 0 (pubK E0 K) (sh7i b3 bY bL bA l3 c3 cY cL cA a b 3 m i d' (k+1) E)) (fin:∀ (E':Mem) (b':Option Addr) (c':Nat),Mem.le E E'->Bs E' b' 8448 c' w->Lp WL7 8 Try.f7 [1,1,1,1,1,1,0,1,0] 0 (pubK E0 K) (sh7 b3 b' l3 c3 c' (mx a m) b (i+1) E')):
  Rnd WL7 8 Try.f7 [1,1,1,1,1,1,0,1,0,0,1,1,0,0,1,1,1,1,1,1,0,1,0] 0 (pubK E0 K) (sh7i b3 bY bL bA l3 c3 cY cL cA a b 3 m i d k E):=by
 refine sm_ (?_:bif decide ((NI k)<8448) then req (0<=(NI k)/\(NI k)<8448) ((∃ (cs:List Value),E (VS bY 8448 cY) cs/\(cs=[]->False))/\∃ (n:Int),LoadE WL7.P E 5 (VS bY 8448 cY) (Int.toNat (NI k)*1) (SV.raw (U8 n))/\(∃ (cs:List Value),E (VS bL 2 cL) cs/\(cs=[]->False))/\∃ (base:Option Addr),∃ (len:Nat),∃ (cap:Nat),LoadE WL7.P E 22 (VS bL 2 cL) 3 (L base len cap)/\req (0<=(NI k)/\(NI k)<(NI len)) ((∃ (cs:List Value),E (VS base len cap) cs/\(cs=[]->False))/\∃ (n_1:Int),LoadE WL7.P E 5 (VS base len cap) (Int.toNat (NI k)*1) (SV.raw (U8 n_1))/\bif n !=n_1 then Lp WL7 8 Try.f7 [1,1,1,1,1,1,0,1,0,0,1,1,0,0,1,1,1,1,1,1,0,1,0] 0 (pubK E0 K) { fr:=no4 (no2 (none::(oB true::oc 0 0::none::some (SV.mp false 1)::none::none::oI 3::oI (NI m)::oL bL 2 cL::none::oc 2 0::oB true::oI (WI ((NI d)+1))::no16 (no8 (no2 (oL b3 l3 c3::oI (NI l3)::oI (NI i)::no32 (no16 (no8 (no4 (none::(oI 8448::oI (WI ((NI k)+1))::no32 (no16 (no8 []))))))))))))),bx:=[(⟨24,.lst [I 128,L bY 8448 cY],2,true⟩:Box),⟨4294967297,.lst [I 3,I a,I 7,I b],4,true⟩,⟨24,.lst [I 128,L bA 8448 cA],2,true⟩],E:=E:St } else Lp WL7 8 Try.f7 [1,1,1,1,1,1,0,1,0,0,1,1,0,0,1,1,1,1,1,1,0,1,0] 0 (pubK E0 K) { fr:=no4 (no2 (none::(oB true::oc 0 0::none::some (SV.mp false 1)::none::none::oI 3::oI (NI m)::oL bL 2 cL::none::oc 2 0::oB true::oI (NI d)::no16 (no8 (no2 (oL b3 l3 c3::oI (NI l3)::oI (NI i)::no32 (no16 (no8 (no4 (none::(oI 8448::oI (WI ((NI k)+1))::no32 (no16 (no8 []))))))))))))),bx:=[(⟨24,.lst [I 128,L bY 8448 cY],2,true⟩:Box),⟨4294967297,.lst [I 3,I a,I 7,I b],4,true⟩,⟨24,.lst [I 128,L bA 8448 cA],2,true⟩],E:=E:St })) else bif bif false then true else decide ((NI d)>1) then Mem.le E0 E/\K (B false) E else (∃ (cs:List Value),E (VS bL 2 cL) cs/\(cs=[]->False))/\∃ (n:Int),∃ (base:Option Addr),∃ (len:Nat),∃ (cap:Nat),LoadE WL7.P E 24 (VS bL 2 cL) 2 (SV.agg [I n,L base len cap])/\∃ (zs:List Int),Bs E bA 8448 cA zs/\Bs E base len cap zs/\8448<=100000/\(128:Int)=n/\Mem.le E E/\(∃ (cs:List Value),E (VS bL 2 cL) cs/\(cs=[]->False))/\∃ (n:Int),∃ (base:Option Addr),∃ (len:Nat),∃ (cap:Nat),LoadE WL7.P E 24 (VS bL 2 cL) 2 (SV.agg [I n,L base len cap])/\∃ (zs:List Int),∃ (r:Int),Bs E base len cap zs/\marksF n zs (3:Int)=r/\∀ (E':Mem),Mem.le E E'->Mem.le E E'/\bif r !=if (NI m)>a then (NI m) else a then Mem.le E0 E'/\K (B false) E' else ∃ (zs:List Int),∃ (r:Int),Bs E' base len cap zs/\marksF n zs (7:Int)=r/\∀ (E'_1:Mem),Mem.le E' E'_1->Mem.le E' E'_1/\bif bif false then true else r !=b then Mem.le E0 E'_1/\K (B false) E'_1 else Lp WL7 8 Try.f7 [1,1,1,1,1,1,0,1,0] 0 (pubK E0 K) { fr:=no4 (no2 (none::(oB true::oc 0 0::none::some (SV.mp false 1)::no8 (oI (NI d)::no16 (no8 (no2 (oL b3 l3 c3::oI (NI l3)::oI (WI ((NI i)+1))::no32 (no16 (no8 (no4 (no2 (oI (NI k)::no32 (no16 (no8 [])))))))))))))),bx:=[(⟨24,.lst [I n,L base len cap],2,true⟩:Box),⟨4294967297,.lst [I 3,I (if (NI m)>a then (NI m) else a),I 7,I b],4,true⟩,⟨24,.lst [I 128,L bA 8448 cA],2,true⟩],E:=E'_1:St })
 delta WI NI U8 VS no2 no4 no8 no16 no32
 have w1:IntKind.wrap .i64 ((k:Int)+1)=((k+1:Nat):Int):=by rw [wrap_i64 (by omega)];simp
 have w2:IntKind.wrap .i64 ((d:Int)+1)=((d+1:Nat):Int):=by rw [wrap_i64 (by omega)];simp
 have w3:IntKind.wrap .i64 ((i:Int)+1)=((i+1:Nat):Int):=by rw [wrap_i64 (by omega)];simp
 have wl:=W.len
 obtain ⟨d1,d2⟩:=hd
 obtain ⟨q1,b2,l2,c2,q2,B2⟩:=FX.load (i:=1) (m:=((128:Int),w)) rfl
 have l2e:l2=8448:=by rw [← B2.2.1];exact wl
 subst l2e
 refine condC (fun g=>?_) (fun g=>condC (fun g2=>absurd g2 (by simp;omega)) (fun _=>?_))
 ·have g:k<8448:=by simp at g;omega
  obtain ⟨b4,l4,c4,f1,B4⟩:=FX.field (i:=1) (m:=((128:Int),w)) rfl
  have l4e:l4=8448:=by rw [← B4.2.1];exact wl
  subst l4e
  rw [w1,w2]
  refine req_intro (by omega) ⟨BY.ne (i:=k) (by omega),y.getD k 0,BY.load rfl (i:=k) (by omega),q1,b4,8448,c4,f1,req_intro (by omega) ⟨B4.ne (i:=k) (by omega),w.getD k 0,B4.load rfl (i:=k) (by omega),condC (fun gd=>?_) (fun gd=>?_)⟩⟩
  ·have gd:y.getD k 0≠w.getD k 0:=by simpa using gd
   have kq:k=q:=Decidable.byContradiction fun u=>gd (hq k u).symm
   have d0:=d2 (by omega)
   exact Lp_re [some 0,some 1,some 2] (ih (d+1) g (by omega) (by omega)) (wkG mr_)
  ·exact Lp_re [some 0,some 1,some 2] (ih d g d1 (fun u=>d2 (by omega))) (wkG mr_)
 ·obtain ⟨t1,t2⟩:=W.marks
  have B2:Bs E b2 8448 c2 w:=B2
  rw [w3]
  refine ⟨q1,128,b2,8448,c2,q2,w,BA,B2,by decide,rfl,mr_,q1,128,b2,8448,c2,q2,w,_,B2,t1,fun E1 k1=>⟨k1,condC (fun g=>absurd g (by simp [mx])) (fun _=>⟨w,_,B2.mono k1,t2,fun E2 k2=>⟨k2,condC (fun g=>absurd g (by simp [mx])) (fun _=>?_)⟩⟩)⟩⟩
  exact Lp_re [some 0,some 1] (fin E2 b2 c2 (mt_ k1 k2) (B2.mono (mt_ k1 k2))) (wkG mr_)
theorem lp7i3 {b3 bY bL bA:Option Addr} {l3 c3 cY cL cA i m q:Nat} {a b:Int} {y w z1 z2:List Int} {E0:Mem} (FX:FL E bL 2 cL [((128:Int),y),((128:Int),w)]) (BY:Bs E bY 8448 cY y) (BA:Bs E bA 8448 cA w) (yl:y.length=8448) (W:Mkd w z1 z2 (mx a m) b) (hq:∀ j,j≠q->w.getD j 0=y.getD j 0) (hi:i<10) (hE:Mem.le E0 E) (fin:∀ (E':Mem) (b':Option Addr) (c':Nat),Mem.le E E'->Bs E' b' 8448 c' w->Lp WL7 8 Try.f7 [1,1,1,1,1,1,0,1,0] 0 (pubK E0 K) (sh7 b3 b' l3 c3 c' (mx a m) b (i+1) E')) {d k:Nat} (hk:k<=8448) (hd:d<=1/\(k<=q->d=0)):Lp WL7 8 Try.f7 [1,1,1,1,1,1,0,1,0,0,1,1,0,0,1,1,1,1,1,1,0,1,0] 0 (pubK E0 K) (sh7i b3 bY bL bA l3 c3 cY cL cA a b 3 m i d k E):=
 Lp_ind okWL7 (fun x:{x:Nat×Nat//x.2<=8448/\x.1<=1/\(x.2<=q->x.1=0)}=>sh7i b3 bY bL bA l3 c3 cY cL cA a b 3 m i x.1.1 x.1.2 E) (fun x=>8448-x.1.2)
  (fun x ih=>r7i3 FX BY BA yl W hq hi hE x.2.2 x.2.1 (fun d' hlt h1 h2=>ih ⟨⟨d',x.1.2+1⟩,hlt,h1,h2⟩ (by show 8448-(_+1)<8448-_;omega)) fin) ⟨⟨d,k⟩,hk,hd⟩
theorem r7i7 {b3 bY bL bA:Option Addr} {l3 c3 cY cL cA i m q:Nat} {a b:Int} {y w z1 z2:List Int} {E0:Mem} (FX:FL E bL 2 cL [((128:Int),y),((128:Int),w)]) (BY:Bs E bY 8448 cY y) (BA:Bs E bA 8448 cA w) (yl:y.length=8448) (W:Mkd w z1 z2 a (mx b m)) (hq:∀ j,j≠q->w.getD j 0=y.getD j 0) (hi:i<10) (hE:Mem.le E0 E) {d k:Nat} (hd:d<=1/\(k<=q->d=0)) (hk:k<=8448)
  (ih:∀ d',k<8448->d'<=1->(k+1<=q->d'=0)->Lp WL7 8 Try.f7 [1,1,1,1,1,1,0,1,0,0,1,1,0,0,1,1,1,1,1,1,0,1,0] 0 (pubK E0 K) (sh7i b3 bY bL bA l3 c3 cY cL cA a b 7 m i d' (k+1) E)) (fin:∀ (E':Mem) (b':Option Addr) (c':Nat),Mem.le E E'->Bs E' b' 8448 c' w->Lp WL7 8 Try.f7 [1,1,1,1,1,1,0,1,0] 0 (pubK E0 K) (sh7 b3 b' l3 c3 c' a (mx b m) (i+1) E')):
  Rnd WL7 8 Try.f7 [1,1,1,1,1,1,0,1,0,0,1,1,0,0,1,1,1,1,1,1,0,1,0] 0 (pubK E0 K) (sh7i b3 bY bL bA l3 c3 cY cL cA a b 7 m i d k E):=by
 refine sm_ (?_:bif decide ((NI k)<8448) then req (0<=(NI k)/\(NI k)<8448) ((∃ (cs:List Value),E (VS bY 8448 cY) cs/\(cs=[]->False))/\∃ (n:Int),LoadE WL7.P E 5 (VS bY 8448 cY) (Int.toNat (NI k)*1) (SV.raw (U8 n))/\(∃ (cs:List Value),E (VS bL 2 cL) cs/\(cs=[]->False))/\∃ (base:Option Addr),∃ (len:Nat),∃ (cap:Nat),LoadE WL7.P E 22 (VS bL 2 cL) 3 (L base len cap)/\req (0<=(NI k)/\(NI k)<(NI len)) ((∃ (cs:List Value),E (VS base len cap) cs/\(cs=[]->False))/\∃ (n_1:Int),LoadE WL7.P E 5 (VS base len cap) (Int.toNat (NI k)*1) (SV.raw (U8 n_1))/\bif n !=n_1 then Lp WL7 8 Try.f7 [1,1,1,1,1,1,0,1,0,0,1,1,0,0,1,1,1,1,1,1,0,1,0] 0 (pubK E0 K) { fr:=no4 (no2 (none::(oB true::oc 0 0::none::some (SV.mp false 1)::none::none::oI 7::oI (NI m)::oL bL 2 cL::none::oc 2 0::oB true::oI (WI ((NI d)+1))::no16 (no8 (no2 (oL b3 l3 c3::oI (NI l3)::oI (NI i)::no32 (no16 (no8 (no4 (none::(oI 8448::oI (WI ((NI k)+1))::no32 (no16 (no8 []))))))))))))),bx:=[(⟨24,.lst [I 128,L bY 8448 cY],2,true⟩:Box),⟨4294967297,.lst [I 3,I a,I 7,I b],4,true⟩,⟨24,.lst [I 128,L bA 8448 cA],2,true⟩],E:=E:St } else Lp WL7 8 Try.f7 [1,1,1,1,1,1,0,1,0,0,1,1,0,0,1,1,1,1,1,1,0,1,0] 0 (pubK E0 K) { fr:=no4 (no2 (none::(oB true::oc 0 0::none::some (SV.mp false 1)::none::none::oI 7::oI (NI m)::oL bL 2 cL::none::oc 2 0::oB true::oI (NI d)::no16 (no8 (no2 (oL b3 l3 c3::oI (NI l3)::oI (NI i)::no32 (no16 (no8 (no4 (none::(oI 8448::oI (WI ((NI k)+1))::no32 (no16 (no8 []))))))))))))),bx:=[(⟨24,.lst [I 128,L bY 8448 cY],2,true⟩:Box),⟨4294967297,.lst [I 3,I a,I 7,I b],4,true⟩,⟨24,.lst [I 128,L bA 8448 cA],2,true⟩],E:=E:St })) else bif bif false then true else decide ((NI d)>1) then Mem.le E0 E/\K (B false) E else (∃ (cs:List Value),E (VS bL 2 cL) cs/\(cs=[]->False))/\∃ (n:Int),∃ (base:Option Addr),∃ (len:Nat),∃ (cap:Nat),LoadE WL7.P E 24 (VS bL 2 cL) 2 (SV.agg [I n,L base len cap])/\∃ (zs:List Int),Bs E bA 8448 cA zs/\Bs E base len cap zs/\8448<=100000/\(128:Int)=n/\Mem.le E E/\(∃ (cs:List Value),E (VS bL 2 cL) cs/\(cs=[]->False))/\∃ (n:Int),∃ (base:Option Addr),∃ (len:Nat),∃ (cap:Nat),LoadE WL7.P E 24 (VS bL 2 cL) 2 (SV.agg [I n,L base len cap])/\∃ (zs:List Int),∃ (r:Int),Bs E base len cap zs/\marksF n zs (3:Int)=r/\∀ (E':Mem),Mem.le E E'->Mem.le E E'/\bif r !=a then Mem.le E0 E'/\K (B false) E' else ∃ (zs:List Int),∃ (r:Int),Bs E' base len cap zs/\marksF n zs (7:Int)=r/\∀ (E'_1:Mem),Mem.le E' E'_1->Mem.le E' E'_1/\bif bif false then true else r !=if (NI m)>b then (NI m) else b then Mem.le E0 E'_1/\K (B false) E'_1 else Lp WL7 8 Try.f7 [1,1,1,1,1,1,0,1,0] 0 (pubK E0 K) { fr:=no4 (no2 (none::(oB true::oc 0 0::none::some (SV.mp false 1)::no8 (oI (NI d)::no16 (no8 (no2 (oL b3 l3 c3::oI (NI l3)::oI (WI ((NI i)+1))::no32 (no16 (no8 (no4 (no2 (oI (NI k)::no32 (no16 (no8 [])))))))))))))),bx:=[(⟨24,.lst [I n,L base len cap],2,true⟩:Box),⟨4294967297,.lst [I 3,I a,I 7,I (if (NI m)>b then (NI m) else b)],4,true⟩,⟨24,.lst [I 128,L bA 8448 cA],2,true⟩],E:=E'_1:St })
 delta WI NI U8 VS no2 no4 no8 no16 no32
 have w1:IntKind.wrap .i64 ((k:Int)+1)=((k+1:Nat):Int):=by rw [wrap_i64 (by omega)];simp
 have w2:IntKind.wrap .i64 ((d:Int)+1)=((d+1:Nat):Int):=by rw [wrap_i64 (by omega)];simp
 have w3:IntKind.wrap .i64 ((i:Int)+1)=((i+1:Nat):Int):=by rw [wrap_i64 (by omega)];simp
 have wl:=W.len
 obtain ⟨d1,d2⟩:=hd
 obtain ⟨q1,b2,l2,c2,q2,B2⟩:=FX.load (i:=1) (m:=((128:Int),w)) rfl
 have l2e:l2=8448:=by rw [← B2.2.1];exact wl
 subst l2e
 refine condC (fun g=>?_) (fun g=>condC (fun g2=>absurd g2 (by simp;omega)) (fun _=>?_))
 ·have g:k<8448:=by simp at g;omega
  obtain ⟨b4,l4,c4,f1,B4⟩:=FX.field (i:=1) (m:=((128:Int),w)) rfl
  have l4e:l4=8448:=by rw [← B4.2.1];exact wl
  subst l4e
  rw [w1,w2]
  refine req_intro (by omega) ⟨BY.ne (i:=k) (by omega),y.getD k 0,BY.load rfl (i:=k) (by omega),q1,b4,8448,c4,f1,req_intro (by omega) ⟨B4.ne (i:=k) (by omega),w.getD k 0,B4.load rfl (i:=k) (by omega),condC (fun gd=>?_) (fun gd=>?_)⟩⟩
  ·have gd:y.getD k 0≠w.getD k 0:=by simpa using gd
   have kq:k=q:=Decidable.byContradiction fun u=>gd (hq k u).symm
   have d0:=d2 (by omega)
   exact Lp_re [some 0,some 1,some 2] (ih (d+1) g (by omega) (by omega)) (wkG mr_)
  ·exact Lp_re [some 0,some 1,some 2] (ih d g d1 (fun u=>d2 (by omega))) (wkG mr_)
 ·obtain ⟨t1,t2⟩:=W.marks
  have B2:Bs E b2 8448 c2 w:=B2
  rw [w3]
  refine ⟨q1,128,b2,8448,c2,q2,w,BA,B2,by decide,rfl,mr_,q1,128,b2,8448,c2,q2,w,_,B2,t1,fun E1 k1=>⟨k1,condC (fun g=>absurd g (by simp [mx])) (fun _=>⟨w,_,B2.mono k1,t2,fun E2 k2=>⟨k2,condC (fun g=>absurd g (by simp [mx])) (fun _=>?_)⟩⟩)⟩⟩
  exact Lp_re [some 0,some 1] (fin E2 b2 c2 (mt_ k1 k2) (B2.mono (mt_ k1 k2))) (wkG mr_)
theorem lp7i7 {b3 bY bL bA:Option Addr} {l3 c3 cY cL cA i m q:Nat} {a b:Int} {y w z1 z2:List Int} {E0:Mem} (FX:FL E bL 2 cL [((128:Int),y),((128:Int),w)]) (BY:Bs E bY 8448 cY y) (BA:Bs E bA 8448 cA w) (yl:y.length=8448) (W:Mkd w z1 z2 a (mx b m)) (hq:∀ j,j≠q->w.getD j 0=y.getD j 0) (hi:i<10) (hE:Mem.le E0 E) (fin:∀ (E':Mem) (b':Option Addr) (c':Nat),Mem.le E E'->Bs E' b' 8448 c' w->Lp WL7 8 Try.f7 [1,1,1,1,1,1,0,1,0] 0 (pubK E0 K) (sh7 b3 b' l3 c3 c' a (mx b m) (i+1) E')) {d k:Nat} (hk:k<=8448) (hd:d<=1/\(k<=q->d=0)):Lp WL7 8 Try.f7 [1,1,1,1,1,1,0,1,0,0,1,1,0,0,1,1,1,1,1,1,0,1,0] 0 (pubK E0 K) (sh7i b3 bY bL bA l3 c3 cY cL cA a b 7 m i d k E):=
 Lp_ind okWL7 (fun x:{x:Nat×Nat//x.2<=8448/\x.1<=1/\(x.2<=q->x.1=0)}=>sh7i b3 bY bL bA l3 c3 cY cL cA a b 7 m i x.1.1 x.1.2 E) (fun x=>8448-x.1.2)
  (fun x ih=>r7i7 FX BY BA yl W hq hi hE x.2.2 x.2.1 (fun d' hlt h1 h2=>ih ⟨⟨d',x.1.2+1⟩,hlt,h1,h2⟩ (by show 8448-(_+1)<8448-_;omega)) fin) ⟨⟨d,k⟩,hk,hd⟩
theorem vm7 {n:Int} (hn:0<=n/\n<=255):(IntKind.wrap .i64 ((3:Int)+IntKind.wrap .i64 ((4:Int)*Int.tmod (IntKind.wrap .i64 (Int.tdiv (IntKind.wrap .i64 n) (4:Int))) (2:Int)))=3\/IntKind.wrap .i64 ((3:Int)+IntKind.wrap .i64 ((4:Int)*Int.tmod (IntKind.wrap .i64 (Int.tdiv (IntKind.wrap .i64 n) (4:Int))) (2:Int)))=7)/\
  ∃ m:Nat,(1<=m/\m<=3)/\IntKind.wrap .i64 ((1:Int)+Int.tmod (Int.tmod (IntKind.wrap .i64 n) (4:Int)) (3:Int))=(m:Int):=by
 obtain ⟨x,rfl⟩:∃ x:Nat,n=x:=⟨n.toNat,by omega⟩
 have e1:IntKind.wrap .i64 (x:Int)=(x:Int):=wrap_i64 (by omega)
 have e2:Int.tdiv (x:Int) 4=((x / 4:Nat):Int):=by rw [Int.tdiv_eq_ediv_of_nonneg (by omega)];rfl
 have e3:IntKind.wrap .i64 ((x / 4:Nat):Int)=((x / 4:Nat):Int):=wrap_i64 (by omega)
 have e4:Int.tmod ((x / 4:Nat):Int) 2=((x / 4 % 2:Nat):Int):=by rw [Int.tmod_eq_emod_of_nonneg (by omega)];rfl
 have e5:Int.tmod (x:Int) 4=((x % 4:Nat):Int):=by rw [Int.tmod_eq_emod_of_nonneg (by omega)];rfl
 have e6:Int.tmod ((x % 4:Nat):Int) 3=((x % 4 % 3:Nat):Int):=by rw [Int.tmod_eq_emod_of_nonneg (by omega)];rfl
 rw [e1,e2,e3,e4,e5,e6,wrap_i64 (x:=4*((x / 4 % 2:Nat):Int)) (by omega),wrap_i64 (by omega),wrap_i64 (by omega)]
 exact ⟨by omega,1+x % 4 % 3,by omega,by omega⟩
theorem r7 {b3 bY:Option Addr} {l3 c3 cY i:Nat} {a b:Int} {y z1 z2 z3:List Int} {E0:Mem} (R:Mkd y z1 z2 a b) (BY:Bs E bY 8448 cY y) (B3:Bs E b3 l3 c3 z3) (g3:l3<=10) (hE:Mem.le E0 E) (h:∀ E',Mem.le E0 E'->K (B true) E')
  (ih:i<l3->∀ (E':Mem) (b':Option Addr) (c':Nat) (y':List Int) (a' b2:Int),Mem.le E E'->Mkd y' z1 z2 a' b2->Bs E' b' 8448 c' y'->Lp WL7 8 Try.f7 [1,1,1,1,1,1,0,1,0] 0 (pubK E0 K) (sh7 b3 b' l3 c3 c' a' b2 (i+1) E')):Rnd WL7 8 Try.f7 [1,1,1,1,1,1,0,1,0] 0 (pubK E0 K) (sh7 b3 bY l3 c3 cY a b i E):=by
 refine sm_ (?_:bif decide ((NI i)<(NI l3)) then req (0<=(NI i)/\(NI i)<(NI l3)) ((∃ (cs:List Value),E (VS b3 l3 c3) cs/\(cs=[]->False))/\∃ (n:Int),LoadE WL7.P E 5 (VS b3 l3 c3) (Int.toNat (NI i)*1) (SV.raw (U8 n))/\((4:Int)=(0:Int)->False)/\((2:Int)=(0:Int)->False)/\((4:Int)=(0:Int)->False)/\((3:Int)=(0:Int)->False)/\∃ (zs:List Int),∃ (ms:List (Int×List Int)),∃ (e:Int),Bs E bY 8448 cY zs/\markF 128 zs (WI ((3:Int)+WI ((4:Int)*Int.tmod (WI (Int.tdiv (WI n) 4)) 2))) (WI ((1:Int)+Int.tmod (Int.tmod (WI n) 4) 3))=(ms,e)/\∀ (b':Option Addr) (l' c':Nat) (E':Mem),Mem.le E E'->FL E' b' l' c' ms->Mem.le E E'/\bif e !=(0:Int) then Mem.le E0 E'/\K (B false) E' else bif bif false then true else (NI l') !=2 then Mem.le E0 E'/\K (B false) E' else req ((0:Int)<=(0:Int)/\0<(NI l')) ((∃ (cs:List Value),E' (VS b' l' c') cs/\(cs=[]->False))/\∃ (n_1:Int),∃ (base:Option Addr),∃ (len:Nat),∃ (cap:Nat),LoadE WL7.P E' 24 (VS b' l' c') 0 (SV.agg [I n_1,L base len cap])/\∃ (zs:List Int),Bs E' base len cap zs/\Bs E' bY 8448 cY zs/\len<=100000/\n_1=(128:Int)/\Mem.le E' E'/\req ((0:Int)<=(1:Int)/\1<(NI l')) ((∃ (cs:List Value),E' (VS b' l' c') cs/\(cs=[]->False))/\∃ (base_1:Option Addr),∃ (len_1:Nat),∃ (cap_1:Nat),LoadE WL7.P E' 22 (VS b' l' c') 3 (L base_1 len_1 cap_1)/\bif bif false then true else (NI len_1) !=8448 then Mem.le E0 E'/\K (B false) E' else req ((0:Int)<=(1:Int)/\1<(NI l')) ((∃ (cs:List Value),E' (VS b' l' c') cs/\(cs=[]->False))/\∃ (n_2:Int),∃ (base_2:Option Addr),∃ (len_2:Nat),∃ (cap_2:Nat),LoadE WL7.P E' 24 (VS b' l' c') 2 (SV.agg [I n_2,L base_2 len_2 cap_2])/\∃ (zs:List Int),∃ (ms:List (Int×List Int)),∃ (e_1:Int),Bs E' base_2 len_2 cap_2 zs/\markF n_2 zs (WI ((3:Int)+WI ((4:Int)*Int.tmod (WI (Int.tdiv (WI n) 4)) 2))) (WI ((1:Int)+Int.tmod (Int.tmod (WI n) 4) 3))=(ms,e_1)/\∀ (b'_1:Option Addr) (l'_1 c'_1:Nat) (E'_1:Mem),Mem.le E' E'_1->FL E'_1 b'_1 l'_1 c'_1 ms->Mem.le E' E'_1/\∃ (X:List (Int×List Int)),∃ (w:List Int),FL E'_1 b'_1 l'_1 c'_1 (X++[((128:Int),w)])/\e_1=(0:Int)/\l'_1<=(100000:Nat)/\∀ (b'_2:Option Addr) (l'_2 c'_2:Nat) (E':Mem),Mem.le E'_1 E'->Bs E' b'_2 l'_2 c'_2 w->Mem.le E'_1 E'/\Lp WL7 8 Try.f7 [(1:Nat),(1:Nat),(1:Nat),(1:Nat),(1:Nat),(1:Nat),(0:Nat),(1:Nat),(0:Nat),(0:Nat),(1:Nat),(1:Nat),(0:Nat),(0:Nat),(1:Nat),(1:Nat),(1:Nat),(1:Nat),(1:Nat),(1:Nat),(0:Nat),(1:Nat),(0:Nat)] (0:Nat) (pubK E0 K) { fr:=no4 (no2 (none::(oB true::oc 0 0::none::some (SV.mp false 1)::none::some (SV.raw (U8 n))::oI (WI ((3:Int)+WI ((4:Int)*Int.tmod (WI (Int.tdiv (WI n) 4)) 2)))::oI (WI ((1:Int)+Int.tmod (Int.tmod (WI n) 4) 3))::oL b' l' c'::oI e::oc 2 0::oB true::oI 0::no16 (no8 (no2 (oL b3 l3 c3::oI (NI l3)::oI (NI i)::oB (decide ((NI i)<(NI l3)))::some (SV.rp (VS b3 l3 c3) (Int.toNat (NI i)*(1:Nat)))::some (SV.raw (U8 n))::some (SV.raw (U8 n))::oI (WI n)::oI (WI (Int.tdiv (WI n) 4))::oI (Int.tmod (WI (Int.tdiv (WI n) 4)) 2)::oI (WI ((4:Int)*Int.tmod (WI (Int.tdiv (WI n) 4)) 2))::oI (WI ((3:Int)+WI ((4:Int)*Int.tmod (WI (Int.tdiv (WI n) 4)) 2)))::some (SV.raw (U8 n))::oI (WI n)::oI (Int.tmod (WI n) 4)::oI (Int.tmod (Int.tmod (WI n) 4) 3)::oI (WI ((1:Int)+Int.tmod (Int.tmod (WI n) 4) 3))::some (SV.tup [L b' l' c',I e])::some (SV.agg [I 128,L bY 8448 cY])::oI (WI ((3:Int)+WI ((4:Int)*Int.tmod (WI (Int.tdiv (WI n) 4)) 2)))::oI (WI ((1:Int)+Int.tmod (Int.tmod (WI n) 4) 3))::some (SV.tup [L b' l' c',I e])::oL b' l' c'::oI e::oI e::oB (e !=(0:Int))::oB false::oL b' l' c'::oI (NI l')::oB ((NI l') !=2)::oB (bif false then true else (NI l') !=2)::oB false::oL b' l' c'::some (SV.rp (VS b' l' c') 0)::some (SV.agg [I n_1,L base len cap])::some (SV.agg [I 128,L bY 8448 cY])::oB true::oB false::oB false::oB false::oL b' l' c'::some (SV.rp (VS b' l' c') 2)::some (SV.rp (VS b' l' c') 3)::oL base_1 len_1 cap_1::oI (NI len_1)::oc 0 1::oL bY 8448 cY::oI 8448::oB ((NI len_1) !=8448)::oB (bif false then true else (NI len_1) !=8448)::some (SV.tup [SV.agg [I 128,L b'_2 l'_2 c'_2],B true])::oL b' l' c'::some (SV.rp (VS b' l' c') 2)::some (SV.agg [I n_2,L base_2 len_2 cap_2])::oI (WI ((3:Int)+WI ((4:Int)*Int.tmod (WI (Int.tdiv (WI n) 4)) 2)))::oI (WI ((1:Int)+Int.tmod (Int.tmod (WI n) 4) 3))::some (SV.tup [L b'_1 l'_1 c'_1,I e_1])::oL b'_1 l'_1 c'_1::oI e_1::some (SV.tup [SV.agg [I 128,L b'_2 l'_2 c'_2],B true])::some (SV.agg [I 128,L b'_2 l'_2 c'_2])::oB true::oc 0 1::oL bY 8448 cY::oI 8448::oI 0::no32 (no16 (no8 [])))))))),bx:=[(⟨(24:Nat),Row.lst [I 128,L bY 8448 cY],(2:Nat),true⟩:Box),⟨(4294967297:Nat),Row.lst [I 3,I a,I 7,I b],(4:Nat),true⟩,⟨(24:Nat),Row.lst [I 128,L b'_2 l'_2 c'_2],(2:Nat),true⟩],E:=E':St })))) else Mem.le E0 E/\K (B true) E)
 delta WI NI U8 VS no2 no4 no8 no16 no32
 refine condC (fun g=>?_) (fun _=>⟨hE,h E hE⟩)
 have g:i<l3:=by simpa using g
 have l3e:=B3.2.1
 have hn:0<=z3.getD i 0/\z3.getD i 0<=255:=by
  rw [List.getD_eq_getElem?_getD,List.getElem?_eq_getElem (by omega)]
  exact B3.2.2.2.1 _ (List.getElem_mem _)
 refine req_intro (by omega) ⟨B3.ne g,z3.getD i 0,B3.load rfl g,fun u=>absurd u (by decide),fun u=>absurd u (by decide),fun u=>absurd u (by decide),fun u=>absurd u (by decide),?_⟩
 obtain ⟨hv,m,hm,em⟩:=vm7 hn
 rw [em]
 generalize IntKind.wrap .i64 ((3:Int)+IntKind.wrap .i64 ((4:Int)*Int.tmod (IntKind.wrap .i64 (Int.tdiv (IntKind.wrap .i64 (z3.getD i 0)) (4:Int))) (2:Int)))=v at hv ⊢
 have ylen:=R.len
 rcases hv with rfl|rfl
 ·obtain ⟨w,e1,e2,W,hq⟩:=R.mark (k:=0) (m:=m) (v:=3) (.inl ⟨rfl,rfl⟩) hm
  have W:Mkd w z1 z2 (mx a m) b:=W
  have wl:=W.len
  refine ⟨y,_,0,BY,e1,fun b1 l1 c1 E1 k1 FX=>⟨k1,condC (fun g=>absurd g (by decide)) (fun _=>?_)⟩⟩
  have nl:=FX.len
  have nl:2=l1:=nl
  subst nl
  refine condC (fun g=>absurd g (by decide)) (fun _=>req_intro (by decide) ?_)
  obtain ⟨q1,b2,l2,c2,q2,B2⟩:=FX.load (i:=0) (m:=((128:Int),y)) rfl
  obtain ⟨q3,b4,l4,c4,q4,B4⟩:=FX.load (i:=1) (m:=((128:Int),w)) rfl
  obtain ⟨b5,l5,c5,f5,B5⟩:=FX.field (i:=1) (m:=((128:Int),w)) rfl
  have l2e:l2=8448:=by rw [← B2.2.1];exact ylen
  have l5e:l5=8448:=by rw [← B5.2.1];exact wl
  subst l2e
  subst l5e
  refine ⟨q1,128,b2,8448,c2,q2,y,B2,BY.mono k1,by decide,rfl,mr_,req_intro (by decide) ⟨q1,b5,8448,c5,f5,condC (fun g=>absurd g (by decide)) (fun _=>req_intro (by decide) ⟨q1,128,b4,l4,c4,q4,w,_,0,B4,e2,fun b6 l6 c6 E2 k2 FY=>⟨k2,[((128:Int),w)],w,FY,rfl,?_,fun b7 l7 c7 E3 k3 BA=>⟨k3,?_⟩⟩⟩)⟩⟩
  ·have:=FY.len
   have :2=l6:=this
   omega
  have l7e:l7=8448:=by rw [← BA.2.1];exact wl
  subst l7e
  have k23:=mt_ k2 k3
  have k13:=mt_ k1 k23
  exact Lp_re [some 0,some 1,some 2] (lp7i3 (q:=4224*0+14+m) (d:=0) (k:=0) (FX.mono k23) (BY.mono k13) BA ylen W hq (by omega) (mt_ hE k13) (fun E' b' c' le' B'=>ih g E' b' c' w _ _ (mt_ k13 le') W B') (Nat.zero_le _) ⟨by decide,fun _=>rfl⟩) (wkG mr_)
 ·obtain ⟨w,e1,e2,W,hq⟩:=R.mark (k:=1) (m:=m) (v:=7) (.inr ⟨rfl,rfl⟩) hm
  have W:Mkd w z1 z2 a (mx b m):=W
  have wl:=W.len
  refine ⟨y,_,0,BY,e1,fun b1 l1 c1 E1 k1 FX=>⟨k1,condC (fun g=>absurd g (by decide)) (fun _=>?_)⟩⟩
  have nl:=FX.len
  have nl:2=l1:=nl
  subst nl
  refine condC (fun g=>absurd g (by decide)) (fun _=>req_intro (by decide) ?_)
  obtain ⟨q1,b2,l2,c2,q2,B2⟩:=FX.load (i:=0) (m:=((128:Int),y)) rfl
  obtain ⟨q3,b4,l4,c4,q4,B4⟩:=FX.load (i:=1) (m:=((128:Int),w)) rfl
  obtain ⟨b5,l5,c5,f5,B5⟩:=FX.field (i:=1) (m:=((128:Int),w)) rfl
  have l2e:l2=8448:=by rw [← B2.2.1];exact ylen
  have l5e:l5=8448:=by rw [← B5.2.1];exact wl
  subst l2e
  subst l5e
  refine ⟨q1,128,b2,8448,c2,q2,y,B2,BY.mono k1,by decide,rfl,mr_,req_intro (by decide) ⟨q1,b5,8448,c5,f5,condC (fun g=>absurd g (by decide)) (fun _=>req_intro (by decide) ⟨q1,128,b4,l4,c4,q4,w,_,0,B4,e2,fun b6 l6 c6 E2 k2 FY=>⟨k2,[((128:Int),w)],w,FY,rfl,?_,fun b7 l7 c7 E3 k3 BA=>⟨k3,?_⟩⟩⟩)⟩⟩
  ·have:=FY.len
   have :2=l6:=this
   omega
  have l7e:l7=8448:=by rw [← BA.2.1];exact wl
  subst l7e
  have k23:=mt_ k2 k3
  have k13:=mt_ k1 k23
  exact Lp_re [some 0,some 1,some 2] (lp7i7 (q:=4224*1+14+m) (d:=0) (k:=0) (FX.mono k23) (BY.mono k13) BA ylen W hq (by omega) (mt_ hE k13) (fun E' b' c' le' B'=>ih g E' b' c' w _ _ (mt_ k13 le') W B') (Nat.zero_le _) ⟨by decide,fun _=>rfl⟩) (wkG mr_)
theorem lp7 {z1 z2 z3:List Int} {b3:Option Addr} {l3 c3:Nat} {E0:Mem} (g3:l3<=10) (h:∀ E',Mem.le E0 E'->K (B true) E'):
  ∀ {r i:Nat} {E:Mem} {bY:Option Addr} {cY:Nat} {a b:Int} {y:List Int},Mkd y z1 z2 a b->Bs E bY 8448 cY y->Bs E b3 l3 c3 z3->Mem.le E0 E->i+r=l3->Lp WL7 8 Try.f7 [1,1,1,1,1,1,0,1,0] 0 (pubK E0 K) (sh7 b3 bY l3 c3 cY a b i E)
 | 0,i,E,bY,cY,a,b,y,R,BY,B3,hE,hr=>Lp_ind (ι:=Unit) okWL7 (fun _=>sh7 b3 bY l3 c3 cY a b i E) (fun _=>0) (fun _ _=>r7 R BY B3 g3 hE h (fun g=>by omega)) ()
 | r+1,i,E,bY,cY,a,b,y,R,BY,B3,hE,hr=>Lp_ind (ι:=Unit) okWL7 (fun _=>sh7 b3 bY l3 c3 cY a b i E) (fun _=>0) (fun _ _=>r7 R BY B3 g3 hE h (fun g E' b' c' y' a' b2 le' R' BY'=>lp7 g3 h (r:=r) (i:=i+1) R' BY' (B3.mono le') (mt_ hE le') (by omega))) ()
theorem e7 {b1:Option Addr} {l1:Nat} {c1:Nat} {z1:List Int} {b2:Option Addr} {l2:Nat} {c2:Nat} {z2:List Int} {b3:Option Addr} {l3:Nat} {c3:Nat} {z3:List Int} (hB1:Bs E b1 l1 c1 z1) (hL1:l1<=9223372036854775807) (hB2:Bs E b2 l2 c2 z2) (hL2:l2<=9223372036854775807) (hB3:Bs E b3 l3 c3 z3) (hL3:l3<=9223372036854775807) (h:∀ E':Mem,Mem.le E E'->K (B true) E'):
  Ent WL7 8 Try.f7 [L b1 l1 c1,L b2 l2 c2,L b3 l3 c3] E K:=by
 refine sm_ (?_:∀ (E':Mem),Mem.le E E'->Mem.le E E'/\∃ (xs:List Int),∃ (ys:List Int),Bs E' b1 l1 c1 xs/\Bs E' b2 l2 c2 ys/\(l1<=60/\l2<=60->∀ (b':Option Addr) (l' c':Nat) (y:List Int) (E'_1:Mem),Mem.le E' E'_1->Hyp (Run y xs ys)->Bs E'_1 b' l' c' y->Mem.le E' E'_1/\bif decide ((NI l1)>60) then Mem.le E E'_1/\K (B true) E'_1 else bif bif false then true else decide ((NI l2)>60) then Mem.le E E'_1/\K (B true) E'_1 else bif bif false then true else decide ((NI l3)>10) then Mem.le E E'_1/\K (B true) E'_1 else Lp WL7 8 Try.f7 [1,1,1,1,1,1,0,1,0] 0 (pubK E K) { fr:=some (L b1 l1 c1)::oL b2 l2 c2::oL b3 l3 c3::none::none::none::none::oB true::oc 0 0::oB true::some (SV.mp false 1)::no8 (no2 (oB true::some (SV.tup [SV.agg [I 128,L b' l' c'],B true])::oL b1 l1 c1::oL b2 l2 c2::some (SV.tup [SV.agg [I 128,L b' l' c'],B true])::some (SV.agg [I 128,L b' l' c'])::oB true::oL b1 l1 c1::oI (NI l1)::oB (decide ((NI l1)>60))::oB false::oL b2 l2 c2::oI (NI l2)::oB (decide ((NI l2)>60))::oB (bif false then true else decide ((NI l2)>60))::oB false::oL b3 l3 c3::oI (NI l3)::oB (decide ((NI l3)>10))::oB (bif false then true else decide ((NI l3)>10))::none::oB true::oB false::some (SV.mp false 1)::some (SV.mp false 1)::oL b3 l3 c3::oI (NI l3)::oI 0::no32 (no32 (no32 (no16 (no4 (no2 (none::[])))))))),bx:=[(⟨24,.lst [I 128,L b' l' c'],2,true⟩:Box),⟨4294967297,.lst [I 3,I 2,I 7,I 1],4,true⟩],E:=E'_1:St })/\((l1<=60/\l2<=60->False)->Mem.le E' E'/\bif decide ((NI l1)>60) then Mem.le E E'/\K (B true) E' else bif bif false then true else decide ((NI l2)>60) then Mem.le E E'/\K (B true) E' else bif bif false then true else decide ((NI l3)>10) then Mem.le E E'/\K (B true) E' else Mem.le E E'/\K (B false) E'))
 delta NI no2 no4 no8 no16 no32
 intro E1 k1
 have B1:=hB1.mono k1
 have B2:=hB2.mono k1
 have B3:=hB3.mono k1
 refine ⟨k1,z1,z2,B1,B2,fun gg bY lY cY y E2 k2 R BY=>⟨k2,?_⟩,fun ng=>⟨mr_,?_⟩⟩
 ·have R:Run y z1 z2:=R
  have le2:=mt_ k1 k2
  refine condC (fun _=>⟨le2,h E2 le2⟩) (fun _=>condC (fun _=>⟨le2,h E2 le2⟩) (fun _=>condC (fun _=>⟨le2,h E2 le2⟩) (fun g3=>?_)))
  have g3:l3<=10:=by simp at g3;omega
  have lye:lY=8448:=by rw [← BY.2.1,R.len]
  subst lye
  exact Lp_re [some 0,some 1] (lp7 g3 h (r:=l3) (i:=0) R.mkd BY (B3.mono k2) le2 (by omega)) (wkG mr_)
 ·refine condC (fun _=>⟨k1,h E1 k1⟩) (fun g1=>condC (fun _=>⟨k1,h E1 k1⟩) (fun g2=>condC (fun _=>⟨k1,h E1 k1⟩) (fun g3=>?_)))
  exact absurd (by simp at g1 g2;omega) ng
theorem opn7 (W:World) (K:List SV->Prop) (h:∀ (b1:Option Addr) (l1 c1:Nat) (z1:List Int),(l1<=c1)->(c1<=maxLen)->(b1=none->c1=0)->(z1.length=c1)->(∀ x∈z1,(Lit.int .u8 x).wf=true)->RowAt W (.slice b1 l1 c1) (z1.map (.int .u8))->∀ (b2:Option Addr) (l2 c2:Nat) (z2:List Int),(l2<=c2)->(c2<=maxLen)->(b2=none->c2=0)->(z2.length=c2)->(∀ x∈z2,(Lit.int .u8 x).wf=true)->RowAt W (.slice b2 l2 c2) (z2.map (.int .u8))->∀ (b3:Option Addr) (l3 c3:Nat) (z3:List Int),(l3<=c3)->(c3<=maxLen)->(b3=none->c3=0)->(z3.length=c3)->(∀ x∈z3,(Lit.int .u8 x).wf=true)->RowAt W (.slice b3 l3 c3) (z3.map (.int .u8))->K [L b1 l1 c1,L b2 l2 c2,L b3 l3 c3]):opnAll Try.prog W Try.f7.params.toList K:=
 same (by kernel_rfl) h
theorem sem7 (W:World):opnAll Try.prog W Try.f7.params.toList fun ss=>TabSem Try.prog 7 ss (fun v cs=>RowAt W v cs) fun r _=>r= .raw (.bool true):=by
 refine opn7 W _ ?_
 intro b1 l1 c1 z1 hl1 hc1 hb1 hz1 hw1 hE1 b2 l2 c2 z2 hl2 hc2 hb2 hz2 hw2 hE2 b3 l3 c3 z3 hl3 hc3 hb3 hz3 hw3 hE3
 exact esm okWL7 Try.func7 rfl (e7 (Bs.of hl1 hb1 hz1 hw1 hE1) (Nat.le_trans hl1 (by simpa [maxLen] using hc1)) (Bs.of hl2 hb2 hz2 hw2 hE2) (Nat.le_trans hl2 (by simpa [maxLen] using hc2)) (Bs.of hl3 hb3 hz3 hw3 hE3) (Nat.le_trans hl3 (by simpa [maxLen] using hc3)) (fun _ _=>rfl))
theorem lifted7 (os:Os) (started:os.Started) (H:Type) (enc:TypeId×Value->H):
  ReturnsInHanded {} Try.checked os 7 .any (Rows.bootMarksSpec.pre6 enc Try.prog Try.f7 Rows.bootMarksRow.domain false) (Rows.bootMarksSpec.post enc Try.prog Try.f7 false true false false):=
 lift_true (C:=Try.checked) (by kernel_rfl) (by kernel_rfl) started (by kernel_rfl) Try.func7
  (ChangeSpec.witness6 (enc:=enc) (C:=Try.checked) false ⟨#[],#[.slice none 0 0,.slice none 0 0,.slice none 0 0],[]⟩ 8 (by kernel_rfl) (by kernel_rfl) (by kernel_rfl) (by kernel_rfl))
  (Tb:=4) (by kernel_rfl) (by kernel_rfl) (by kernel_rfl) rfl
  (fun ds hl=>by
   match ds,hl with
   | [d0,d1,d2],_=>exact ⟨rfl,rfl,rfl⟩)
  sem7
theorem over7:Rows.bootMarksRow.holds Try.pinned (OpenSpec.ofChange Rows.bootMarksSpec):=
 OpenClaim.holds_of_wide 7 Try.f7 rfl rfl rfl rfl rfl rfl rfl ⟨rfl,rfl,rfl,rfl,rfl⟩ rfl rfl rfl rfl rfl (by kernel_rfl) Try.func7 (by kernel_rfl)
  (of_decide_eq_true (by kernel_rfl)) (by unfold Func.isWrapper;first|(rw [if_pos (by decide+kernel)];kernel_rfl)|(rw [if_neg (by decide+kernel)];exact ⟨rfl,rfl⟩))
  (fun os started H enc _=>lifted7 os started H enc)
theorem proved7:Rows.BootMarksSaid:=over7
end Go.Proofs.Ytdblighgcpabnaa.BootOwn
